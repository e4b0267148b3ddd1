import Derived.Test.YtkanpepkdcmpmaaGreatDoorY43
set_option maxHeartbeats 40000000
set_option maxRecDepth 100000
set_option linter.all false
namespace Go.Proofs.YtkanpepkdcmpmaaGreatDoor
section
open Go.RowKit
theorem aDR:num []=none:=by
 cases h:num [] with
 |none=>rfl
 |some n=>exact absurd ((yR _ _).1 h).2.symm (Li n)
theorem aDS {s:aj}{n:Nat}(h:num s=some n):dK s=n:=by
 unfold dK;rw[YP h]
theorem aDT {s:aj}(h:∀u,Lib.parseUintB 31 s≠ .ok u):isNum s=false:=by
 unfold isNum
 cases hn:num s with
 |none=>rfl
 |some n=>exact absurd (YP hn) (h n)
theorem ang (s:aj):dK s<=2147483647:=by
 unfold dK;split
 ·rename_i h;exact(YQ h).1
 ·omega
 ·omega
def head (i:Nat):aj:=Lib.decDigits i++[58,32]
def lr:List aj:=[[32,91],[32,42],[32,97,102,116,101,114,32]]
def pZ (i:Nat)(s:aj):RS:=let r:RS:=⟨s,false⟩;(r.skip (head i)).must (r.has (head i))
def zF (i:Nat)(s:aj):Option Ev:=gY ((pZ i s).text lr)
def yc (i:Nat)(s:aj):RS:=((pZ i s).until lr).must (zF i s).isSome
def uA (i:Nat)(s:aj):List aL×RS:=(yc i s).asks (s.length+1)
def Dm (i:Nat)(s:aj):RS:=RS.tail i (uA i s).2
def line (i:Nat)(s:aj):Option (Ev×List aL):=if(Dm i s).bad then none else some ((zF i s).getD oT,(uA i s).1)
def lines:Nat->List aj->Option (List Ev×List aL)
 |_,[]=>some ([],[])
 |i,s::l=>match line i s with
  |none=>none
  |some (e,a)=>match lines (i+1) l with
   |none=>none
   |some (es,more)=>some (e::es,a++more)
def uB (s:aj):Cq:=
 if 5000<s.count 10 then .tD
 else if s=[] then .ok [] []
 else if s.getLast? =some 10 then
  match lines 0 (bW 10 s.dropLast) with
  |some (e,a)=> .ok e a
  |none=> .form
 else .form
end
section
open Go.RowKit
theorem acC (s:aj)(k:Nat):(⟨s.toArray⟩:ByteArray).extract 0 k=⟨(s.take k).toArray⟩:=SV (Lib.extract_from_zero ⟨s.toArray⟩ k)
theorem aDU (s:aj)(k:Nat):(⟨s.toArray⟩:ByteArray).extract k s.length=⟨(s.drop k).toArray⟩:=SV (Lib.extract_to_end ⟨s.toArray⟩ k)
end
section
open Go.RowKit
theorem lS (w:World)(a:Addr)(v:Value):w.grownBy (w.setCell a v) (some a.block):=⟨rfl,rfl,rfl,ai,fun k _ hne=>by
 simp only[World.setCell,QZ]
 rw[af (fun h=>hne (by rw[h]))]⟩
end
section
open Go.RowKit
theorem zG (r:RS)(c:Bool)(p:Nat)(w:World)(h:gD w p r):
  Calls Tryz.prog 103 #[.pointer (some ⟨p,0,none⟩),.bool c] w fun e w'=>e=.returned (.tuple #[])/\gD w' p (r.must c)/\w.grownBy w' (some p):=by
 obtain⟨rest,bad⟩:=r;have c1:w.cell? ⟨p,1,none⟩=some (.bool bad):=az.cell h 1;have f1:=az.frozen h 1;have hs:=ae (az.set h 1 (.bool (bad|| !c)));clear h
 cases bad with
 |true=>
  go_enter Tryz.func103,Tryz.ntmps103;go_wp2;refine bodyPost_end (results_none rfl _ _ _) rfl ?_;exact⟨rfl,hs.out,lS w ⟨p,1,none⟩ _⟩
 |false=>
  go_enter Tryz.func103,Tryz.ntmps103;go_wp2;refine bodyPost_end (results_none rfl _ _ _) rfl ?_;exact⟨rfl,hs.out,lS w ⟨p,1,none⟩ _⟩
theorem JM (r:RS)(s:aj)(p:Nat)(w:World)(h:gD w p r):
  Calls Tryz.prog 104 #[.pointer (some ⟨p,0,none⟩),sv s] w fun e w'=>e=.returned (.bool (r.has s))/\gD w' p (r.skip s)/\w.grownBy w' (some p):=by
 obtain⟨rest,bad⟩:=r;have c0:w.cell? ⟨p,0,none⟩=some (sv rest):=az.cell h 0;have f0:=az.frozen h 0;have hs:=ae (az.set h 0 (sv (Lib.trimPrefix rest s)));clear h;have hc:=ae (agX rest s w);generalize sv rest=vr at c0 hc;unfold sv at*;go_enter Tryz.func104,Tryz.ntmps104
 go_wp2_with (go_at_call 147;refine hc.out.mono ?_;rintro e w1 ⟨rfl,rfl⟩)
 go_ret;exact⟨rfl,hs.out,lS w1 ⟨p,0,none⟩ _⟩
theorem acD (dD:List aj)(s:aj):cutAt dD s<=s.length:=by
 unfold cutAt
 have key:∀(l:List aj) (a:Nat),a<=s.length->l.foldl (fun a p=>if 0<=Lib.index s p then min a (Lib.index s p).toNat else a) a<=s.length:=by
  intro l
  induction l with
  |nil=>intro a h;exact h
  |cons p l ih=>
   intro a h;simp only[zN];split
   ·exact ih _ ab
   ·exact ih _ h
 exact key dD _ ax
def cutFrom (s:aj)(a:Nat)(l:List aj):Nat:=l.foldl (fun a p=>if 0<=Lib.index s p then min a (Lib.index s p).toNat else a) a
theorem aDV (s:aj)(a:Nat)(l:List aj)(p:aj):cutFrom s a (l++[p])=if 0<=Lib.index s p then min (cutFrom s a l) (Lib.index s p).toNat else cutFrom s a l:=by
 unfold cutFrom;rw[zL];rfl
theorem MJ (r:RS)(dD:List aj)(p g:Nat)(w:World)(h:gD w p r)(hg:Gl w)(hl:r.rest.length<=4000000000)(Tc:iE w g dD)(hn:dD.length<=100)(_hp:8<=p):
  Calls Tryz.prog 105 #[.pointer (some ⟨p,0,none⟩),.slice (some ⟨g,0,none⟩) dD.length dD.length] w fun e w'=>e=.returned (sv (r.text dD))/\gD w' p (r.until dD)/\w.grownBy w' (some p):=by
 obtain⟨rest,bad⟩:=r;have c0:w.cell? ⟨p,0,none⟩=some (sv rest):=az.cell h 0;have f0:=az.frozen h 0;have hl:rest.length<=4000000000:=hl;have hs:=ae (az.set h 0 (sv (rest.drop (cutAt dD rest))));have hcut:=ae (show cutAt dD rest=cutFrom rest rest.length dD from rfl);have hle:=acD dD rest;have bl:=ae Tc
 have anh:∀q:aj,Calls Tryz.prog 100 #[sv rest,sv q] w fun e w'=>e=.returned (I (Lib.index rest q))/\w'=w:=fun q=>agZ rest q w hg hl
 have aDW:=ae anh;clear h anh Tc hg;generalize hcv:cutAt dD rest=cv at*;unfold sv at*;go_enter Tryz.func105,Tryz.ntmps105;go_wp2_with fail;go_loop [5,17] (fun a i=>∃(k:Nat),k<=dD.length/\a=I (cutFrom rest rest.length (dD.take k))/\i=.int .i64 k) (fun _ i=>dD.length-(intOf i).toNat)
 case atStart=>exact⟨0,ab,by simp[cutFrom],rfl⟩
 case round=>
  obtain⟨k,hk,rfl,rfl⟩:=hrel;by_cases hlt:k<dD.length
  ·have hcell:w.cell? ⟨g,k,none⟩=some (sv dD[k]):=bl.out.cell (by simp[hlt])
   have hst:cutFrom rest rest.length (dD.take (k+1))=if 0<=Lib.index rest dD[k] then min (cutFrom rest rest.length (dD.take k)) (Lib.index rest dD[k]).toNat else cutFrom rest rest.length (dD.take k):=by
    rw[List.take_succ_eq_append_getElem hlt];exact aDV _ _ _ _
   have hst:=ae hst;have hi:=aDW.out dD[k];have Hi:=ae hi;clear hi;generalize dD[k]=q at hcell hst Hi;unfold sv at hcell;generalize cutFrom rest rest.length (dD.take k)=a at hst⊢;by_cases h0:0<=Lib.index rest q
   ·have KG:=ae (show cutFrom rest rest.length (dD.take (k+1))=min a (Lib.index rest q).toNat by rw[hst.out,aq h0])
    obtain⟨ix,fU⟩:∃ix:Nat,Lib.index rest q=ix:=⟨(Lib.index rest q).toNat,ab⟩
    rw[fU] at Hi KG h0;clear hst fU
    go_wp2_with (go_at_call 100;refine Hi.out.mono ?_;rintro e w1 ⟨rfl,rfl⟩)
    go_round
    case rel=>exact⟨k+1,ab,by rw[KG.out];go_num,by go_num⟩
    case measure=>simp[intOf];omega
   ·have KG:=ae (show cutFrom rest rest.length (dD.take (k+1))=a by rw[hst.out,af h0])
    go_wp2_with (go_at_call 100;refine Hi.out.mono ?_;rintro e w1 ⟨rfl,rfl⟩)
    go_round
    case rel=>exact⟨k+1,ab,by rw[KG.out],by go_num⟩
    case measure=>simp[intOf];omega
  ·obtain rfl:k=dD.length:=ab;rw[fK] at*;rw[<-hcut.out] at*;go_wp2_with fail;go_ret;rw[aDU];exact⟨by simp only[acC];rw[<-hcv];rfl,by unfold gD RS.until;rw[hcv];exact hs.out,lS w ⟨p,0,none⟩ _⟩
end
section
open Go.RowKit
theorem aDX {s:aj}(hu:∀u,Lib.parseUintB 31 s≠ .ok u)(w:World)(hg:Gl w)(hs:s.length<=4000000000):
  Calls Tryz.prog 148 #[sv s,I 10,I 31] w fun e w'=>(∃t p,e=.returned (.tuple #[.int .u64 (dK s),.iface t p]))/\aw w w':=by
 refine(ahj s w hg hs).mono ?_;rintro e w' ⟨⟨v,rfl,⟨u',h1,rfl⟩|⟨h1,er,⟨t,p,rfl⟩,rfl⟩⟩,hb⟩
 ·exact absurd h1 (hu u')
 ·exact⟨⟨t,p,rfl⟩,hb⟩
theorem Vz (r:RS)(s:aj)(p:Nat)(w:World)(h:gD w p r)(hg:Gl w)(_hp:8<=p)(hs:s.length<=4000000000):
  Calls Tryz.prog 107 #[.pointer (some ⟨p,0,none⟩),sv s] w fun e w'=>e=.returned (I (dK s))/\gD w' p (r.number s)/\w.grownBy w' (some p):=by
 obtain⟨rest,bad⟩:=r;have Bi:p<w.heap.size:=az.lt h
 have tg:∀w1,aw w w1->gD w1 p ⟨rest,bad⟩:=fun w1 hb=>az.kept h hb Bi
 have hN:((dK s:Nat):Int)<=2147483647:=by have:=ang s;omega
 have hcv:IntKind.i64.wrap ((dK s:Nat):Int)=dK s:=by rw[IntKind.wrap_i64];omega
 by_cases bU:∃u,Lib.parseUintB 31 s=.ok u
 ·obtain⟨u,hu⟩:=bU
  have hnu:dK s=u:=by unfold dK;rw[hu]
  have JN:=ae (ahk hu w hg hs);have MK:=ae (YQ hu).2;have HG:=ae hg;rw[hnu] at hN hcv⊢;have lj:=ae (fun w1 hb=>EC (u:Int) ⟨ab,ab⟩ w1 (Gl.below HG.out hb));have tg:=ae tg;clear h hg hu;unfold sv at JN⊢;have aDY:=ae (show(Lib.itoa (u:Int)==s)=isNum s by rw[Lib.itoa_nonneg,<-MK.out,rR,DJ,dh]);have qd:=ae (show∀w1,aw w w1->gD (w1.setCell ⟨p,1,none⟩ (.bool (bad|| !isNum s))) p (RS.number ⟨rest,bad⟩ s) from fun w1 hb=>az.set (tg.out w1 hb) 1 (.bool (bad|| !isNum s)))
  cases bad with
  |true=>
   go_enter Tryz.func107,Tryz.ntmps107
   go_wp2_with (go_at_call 148;refine JN.out.mono ?_;rintro e w1 ⟨rfl,hb⟩;have c1:w1.cell? ⟨p,1,none⟩=some (.bool true):=az.cell (tg.out w1 hb) 1;have f1:=az.frozen (tg.out w1 hb) 1)
   go_ret;exact⟨rfl,qd.out _ hb,(AE hb _).trans (lS w1 ⟨p,1,none⟩ _)⟩
  |false=>
   go_enter Tryz.func107,Tryz.ntmps107
   go_wp2_with (first|(go_at_call 148;refine JN.out.mono ?_;rintro e w1 ⟨rfl,hb⟩;have c1:w1.cell? ⟨p,1,none⟩=some (.bool false):=az.cell (tg.out w1 hb) 1)|(go_at_call 29;refine(lj.out _ hb).mono ?_;rintro e w2 ⟨rfl,eU⟩;have zl:=hb.trans (eU.mono hb.size);have c2:w2.cell? ⟨p,1,none⟩=some (.bool false):=az.cell (tg.out w2 zl) 1;have f1:=az.frozen (tg.out w2 zl) 1;unfold sv))
   go_ret;rw[aDY.out];exact⟨rfl,qd.out _ zl,(AE zl _).trans (lS w2 ⟨p,1,none⟩ _)⟩
 ·have hu:∀u,Lib.parseUintB 31 s≠ .ok u:=fun u hu=>bU ⟨u,hu⟩
  have JN:=ae (aDX hu w hg hs);have VA:=aDT hu
  have qd:=ae (show∀w1,aw w w1->gD (w1.setCell ⟨p,1,none⟩ (.bool true)) p (RS.number ⟨rest,bad⟩ s) from fun w1 hb=>by
   have:=az.set (tg w1 hb) 1 (.bool true);unfold gD RS.number;rw[VA]
   simpa using this)
  have HH:=ae tg;clear h hg hu bU VA tg;unfold sv at JN⊢
  cases bad with
  |true=>
   go_enter Tryz.func107,Tryz.ntmps107
   go_wp2_with (go_at_call 148;refine JN.out.mono ?_;rintro e w1 ⟨⟨t,q,rfl⟩,hb⟩;have c1:w1.cell? ⟨p,1,none⟩=some (.bool true):=az.cell (HH.out w1 hb) 1;have f1:=az.frozen (HH.out w1 hb) 1)
   go_ret;exact⟨rfl,qd.out _ hb,(AE hb _).trans (lS w1 ⟨p,1,none⟩ _)⟩
  |false=>
   go_enter Tryz.func107,Tryz.ntmps107
   go_wp2_with (go_at_call 148;refine JN.out.mono ?_;rintro e w1 ⟨⟨t,q,rfl⟩,hb⟩;have c1:w1.cell? ⟨p,1,none⟩=some (.bool false):=az.cell (HH.out w1 hb) 1;have f1:=az.frozen (HH.out w1 hb) 1)
   go_ret;exact⟨rfl,qd.out _ hb,(AE hb _).trans (lS w1 ⟨p,1,none⟩ _)⟩
end
section
open Go.RowKit
theorem FI (w:World)(a:Addr)(v:Value):w.grownBy (w.setCell a v) (some a.block):=⟨rfl,rfl,rfl,ai,fun k _ hne=>by
 simp only[World.setCell,QZ]
 rw[af (fun h=>hne (by rw[h]))]⟩
end
section
open Go.RowKit
theorem aDZ {fn:Func}{ty:TypeId}(h:fn.results=#[.cell 2 ty,.tmp 3])(tmps:Array Value)(w:World)(g:Nat)(cs:Array Value)(hL:(loadVar ty ⟨g,0,none⟩).run Tryz.prog w=.ok (.agg cs) w)
  (hp:tmps.getD 2 undef=.pointer (some ⟨g,0,none⟩)):(results fn tmps).run Tryz.prog w=.ok (.tuple #[.agg cs,tmps.getD 3 undef]) w:=by
 rw[results_cell_tmp h,hp];simp only[asAddr,tw,rP,hL]
theorem aEa {w:World}{g:Nat}{cs:Array Value}(hb:az w g cs)(hl:cs.size=8):(loadVar 41 ⟨g,0,none⟩).run Tryz.prog w=.ok (.agg cs) w:=by
 obtain⟨t,ht⟩:=hb;exact run_loadVar_row w g t 41 cs (0,0) _ ht Tryz.underlying41 rfl (by rw[hl];kernel_rfl)
end
section
open Go.RowKit
theorem aEb {w:World}{q:Nat}{a0 a1 a2 a3 a4 a5 a6 a7:Value}(h:az w q #[a0,a1,a2,a3,a4,a5,a6,a7])(b0 b1 b2 b3 b4 b5 b6 b7:Value):az ((((((((w.setCell ⟨q,0,none⟩ b0).setCell ⟨q,1,none⟩ b1).setCell ⟨q,2,none⟩ b2).setCell ⟨q,3,none⟩ b3).setCell ⟨q,4,none⟩ b4).setCell ⟨q,5,none⟩ b5).setCell ⟨q,6,none⟩ b6).setCell ⟨q,7,none⟩ b7) q #[b0,b1,b2,b3,b4,b5,b6,b7]/\w.grownBy ((((((((w.setCell ⟨q,0,none⟩ b0).setCell ⟨q,1,none⟩ b1).setCell ⟨q,2,none⟩ b2).setCell ⟨q,3,none⟩ b3).setCell ⟨q,4,none⟩ b4).setCell ⟨q,5,none⟩ b5).setCell ⟨q,6,none⟩ b6).setCell ⟨q,7,none⟩ b7) (some q):=by
 have h2:=((((((((h.set 0 b0).set 1 b1).set 2 b2).set 3 b3).set 4 b4).set 5 b5).set 6 b6).set 7 b7)
 simp only[List.setIfInBounds_toArray,List.set_cons_zero,List.set_cons_succ] at h2;exact⟨h2,((((((((FI w ⟨q,0,none⟩ _).trans (FI _ ⟨q,1,none⟩ _)).trans (FI _ ⟨q,2,none⟩ _)).trans (FI _ ⟨q,3,none⟩ _)).trans (FI _ ⟨q,4,none⟩ _)).trans (FI _ ⟨q,5,none⟩ _)).trans (FI _ ⟨q,6,none⟩ _)).trans (FI _ ⟨q,7,none⟩ _))⟩
end
section
open Go.RowKit
def VB (o:Option Qn):Int:=if o.isSome then 0 else 8
def QuR (s:aj):Value:=.tuple #[.agg (pQ ((jW s).getD oU)),I (VB (jW s))]
end
namespace Ab
open Go Go.RowKit
variable {A:Nat->Prop} {l:List Int} {v:Value} {w:World}
theorem aEc(h:WI w A (.agg (l.map iA)) v):v=.agg (l.map I).toArray:=by
 obtain⟨_,arr,rfl,hlen,hc⟩:=h
 have:arr=l.map I:=Nb (by simpa using hlen) fun i h1 h2=>by
  have hi:i<l.length:=by simpa using h2
  have:=hc i (iA l[i]) arr[i] (by simp[hi]) (cw h1);rw[xJ (CR.ir (S:=fun _=> .dead 0) (G:=fun _=>gh 0) (H:=fun _=>undef) this rfl),List.getElem_map]
 rw[this]
theorem aEd{n:Int}(h:VI w A (.bD [.agg (l.map iA),.c (iA n)]) v):v=.tuple #[.agg (l.map I).toArray,I n]:=by
 obtain⟨arr,rfl,hlen,hc⟩:=h
 match arr,hlen,hc with
 |[u0,u1],_,hc=>
  have h0:=aEc (hc 0 _ u0 rfl rfl);have h1:=xJ (CR.ir (S:=fun _=> .dead 0) (G:=fun _=>gh 0) (H:=fun _=>undef) (hc 1 _ u1 rfl rfl).2 rfl);subst h0 h1;rfl
theorem ani{f:FuncId}{s:aj}{n:Int}(h:aU Tryz.prog f [.c (sA s)] (fun y=>y=.bD [.agg (l.map iA),.c (iA n)]))(w:World)(hg:Gl w):Calls Tryz.prog f #[sv s] w fun e w'=>e=.returned (.tuple #[.agg (l.map I).toArray,I n])/\aw w w':=by
 refine(h (fun _=>False) w [sv s] ⟨fun b hb=>hb.elim,Kv hg⟩ rfl (fun i x u hx hu=> ?_)).mono ?_
 ·match i,hx,hu with
  |0,hx,hu=>
   simp only[wG,aA] at hx hu;subst hx hu;exact Fh rfl
  |i+1,hx,hu=>simp at hx
 ·rintro e w' ⟨v,r,rfl,rfl,hv,hF⟩;exact⟨by rw[aEd hv],hF.below⟩
end Ab
section
open Go.RowKit
theorem anj (s:aj)(w:World)(hg:Gl w)(hs:s.length<=4000000000):
  Calls Tryz.prog 78 #[sv s] w fun e w'=>e=.returned (QuR s)/\aw w w':=
 Ab.ani (l:=((jW s).getD oU).ints) (n:=VB (jW s)) (Ab.aaU s hs) w hg
end
section
open Go.RowKit
def ML (o:Option Ev):Int:=if o.isSome then 0 else 8
def EvR (s:aj):Value:=.tuple #[.agg (iH ((gY s).getD oT)),I (ML (gY s))]
theorem aEe (s:aj)(w:World)(hg:Gl w)(hs:s.length<=4000000000):
  Calls Tryz.prog 76 #[sv s] w fun e w'=>e=.returned (EvR s)/\aw w w':=
 Ab.ani (l:=((gY s).getD oT).ints) (n:=ML (gY s)) (Ab.aaT s hs) w hg
end
section
open Go.RowKit
theorem RS.QB (r:RS)(l:List aj):(r.until l).rest.length<=r.rest.length:=by simp[RS.until]
theorem RS.VC (r:RS)(l:List aj):(r.text l).length<=r.rest.length:=by simp[RS.text];omega
theorem RS.JO (r:RS)(s:aj):(r.skip s).rest.length<=r.rest.length:=Lib.trimPrefix_le _ _
theorem RS.ank (r:RS):r.fP.rest.length<=r.rest.length:=by
 have h1:=RS.QB r [[32,61,32],[93]];have h2:=RS.JO (r.until [[32,61,32],[93]]) [32,61,32];unfold RS.fP;simp only[];split
 ·exact bj h2 h1
 ·exact h1
theorem RS.anl (r:RS):r.ja.rest.length<=r.rest.length:=by
 have h1:=RS.QB r [[47],[93]];have h2:=RS.JO ((r.until [[47],[93]]).number (r.text [[47],[93]])) [47];exact bj h2 h1
theorem RS.aEf (r:RS)(n:Nat):(r.rf n).rest.length<=r.rest.length:=by
 have h1:=RS.QB r [[93]];have h2:=RS.JO ((r.until [[93]]).number (r.text [[93]])) [93];unfold RS.rf;simp only[];split
 ·exact bj h2 h1
 ·exact h1
theorem RS.anm (r:RS):r.mQ.rest.length<=r.rest.length:=bj (RS.aEf _ _) (bj (RS.anl _) (RS.ank _))
theorem aEg {w:World}{q:Nat}{a0 a1 a2 a3 a4 a5:Value}(h:az w q #[a0,a1,a2,a3,a4,a5])(b0 b1 b2 b3 b4 b5:Value):az ((((((w.setCell ⟨q,0,none⟩ b0).setCell ⟨q,1,none⟩ b1).setCell ⟨q,2,none⟩ b2).setCell ⟨q,3,none⟩ b3).setCell ⟨q,4,none⟩ b4).setCell ⟨q,5,none⟩ b5) q #[b0,b1,b2,b3,b4,b5]/\w.grownBy ((((((w.setCell ⟨q,0,none⟩ b0).setCell ⟨q,1,none⟩ b1).setCell ⟨q,2,none⟩ b2).setCell ⟨q,3,none⟩ b3).setCell ⟨q,4,none⟩ b4).setCell ⟨q,5,none⟩ b5) (some q):=by
 have h2:=(((((h.set 0 b0).set 1 b1).set 2 b2).set 3 b3).set 4 b4).set 5 b5;simp only[List.setIfInBounds_toArray,List.set_cons_zero,List.set_cons_succ] at h2;exact⟨h2,(((((lS w ⟨q,0,none⟩ _).trans (lS _ ⟨q,1,none⟩ _)).trans (lS _ ⟨q,2,none⟩ _)).trans (lS _ ⟨q,3,none⟩ _)).trans (lS _ ⟨q,4,none⟩ _)).trans (lS _ ⟨q,5,none⟩ _)⟩
theorem aEh {r:RS}{p Q:Nat}{w W:World}{q:Qn}{tmps:Array Value}(HA:vY w W p Q r.mQ q)(hq:r.eH.q=q)(n:Int)(hn:r.eH.n=n)
  (h2:tmps.getD 2 undef=.pointer (some ⟨w.heap.size,0,none⟩)):
  bodyPost Tryz.prog Tryz.f106 (fun e w'=>e=.returned (.agg #[I r.eH.q.node,I r.eH.q.handler,I r.eH.q.count,I r.eH.q.kind,I r.eH.q.index,I r.eH.n])/\gD w' p r.mQ/\w.grownBy w' (some p)) .ret { tmps:=tmps,defers:=[] }
   ((((((W.setCell ⟨w.heap.size,0,none⟩ (I q.node)).setCell ⟨w.heap.size,1,none⟩ (I q.handler)).setCell ⟨w.heap.size,2,none⟩ (I q.count)).setCell ⟨w.heap.size,3,none⟩ (I q.kind)).setCell ⟨w.heap.size,4,none⟩ (I q.index)).setCell ⟨w.heap.size,5,none⟩ (I n)):=by
 obtain⟨h1,hg⟩:=aEg HA.res (I q.node) (I q.handler) (I q.count) (I q.kind) (I q.index) (I n);obtain⟨t,ht⟩:=h1;have hr:=results_cell_row (P:=Tryz.prog) Tryz.results106 tmps _ w.heap.size t _ (0,0) _ h2 ht Tryz.underlying161 rfl ah;refine DI hr rfl ⟨by rw[hq,hn],?_,abm HA.gr hg ax⟩;exact HA.rd.grown hg (fun e=>by have h1:=dX e;have:=HA.hp;omega)
theorem aEi (r:RS)(p:Nat)(w:World)(h:gD w p r)(hg:Gl w)(hp:8<=p)(hl:r.rest.length<=4000000000):
  Calls Tryz.prog 106 #[.pointer (some ⟨p,0,none⟩)] w fun e w'=>e=.returned (.agg #[I r.eH.q.node,I r.eH.q.handler,I r.eH.q.count,I r.eH.q.kind,I r.eH.q.index,I r.eH.n])/\gD w' p r.mQ/\w.grownBy w' (some p):=by
 have Bi:p<w.heap.size:=az.lt h;have HT:=ae (show(r.text [[32,61,32],[93]]).length<=4000000000 from bj (RS.VC _ _) hl);have H0:=ae h;have HG:=ae hg;have VD:=ae (show w.grownBy ((w.alloc (.cells #[.int .i64 0,.int .i64 0,.int .i64 0,.int .i64 0,.int .i64 0,.int .i64 0] 161)).alloc (.cells #[.string ⟨#[32,61,32]⟩,.string ⟨#[93]⟩] 9)) (some p) from(zI w _ (some p)).trans (zI _ _ (some p)));have VE:=ae (show gD ((w.alloc (.cells #[.int .i64 0,.int .i64 0,.int .i64 0,.int .i64 0,.int .i64 0,.int .i64 0] 161)).alloc (.cells #[.string ⟨#[32,61,32]⟩,.string ⟨#[93]⟩] 9)) p r from(gD.below h ((Below.refl _ _).alloc ax _)).below ((Below.refl _ _).alloc ax _));have Bq:=ae (show az ((w.alloc (.cells #[.int .i64 0,.int .i64 0,.int .i64 0,.int .i64 0,.int .i64 0,.int .i64 0] 161)).alloc (.cells #[.string ⟨#[32,61,32]⟩,.string ⟨#[93]⟩] 9)) w.heap.size z6 from(az.new w _ _).alloc _);have om:=ae ((hg.alloc (.cells #[.int .i64 0,.int .i64 0,.int .i64 0,.int .i64 0,.int .i64 0,.int .i64 0] 161)).alloc (.cells #[.string ⟨#[32,61,32]⟩,.string ⟨#[93]⟩] 9))
 have zf:=ae (show iE ((w.alloc (.cells #[.int .i64 0,.int .i64 0,.int .i64 0,.int .i64 0,.int .i64 0,.int .i64 0] 161)).alloc (.cells #[.string ⟨#[32,61,32]⟩,.string ⟨#[93]⟩] 9)) (w.heap.size+1) [[32,61,32],[93]] by
  rw[<-World.size_alloc w (.cells #[.int .i64 0,.int .i64 0,.int .i64 0,.int .i64 0,.int .i64 0,.int .i64 0] 161)]
  exact dV _ _)
 have vQ:=ae (r.ank);have CG:=ae (r.fP.anl);clear h hg;cases hq:jW (r.text [[32,61,32],[93]])
 case' some q=>
  have Hq:=ae hq;go_enter Tryz.func106,Tryz.ntmps106
  go_upto_region 2 with(first
   |(go_at_call 105;refine(MJ r [[32,61,32],[93]] p _ _ VE.out om.out hl zf.out au hp).mono ?_;rintro e X1 ⟨rfl,k1,g1⟩)
   |(go_at_call 78;refine(anj _ X1 (om.out.grown g1 hp) HT.out).mono ?_;rintro e X2 ⟨rfl,D2⟩;unfold QuR pQ;rw[Hq.out];simp only[BI,VB,Option.isSome_some]))
  have QC:=g1.size;simp only[World.size_alloc] at QC;have acE:=D2.size
  have wA:=ae (show vY w (X2.alloc (.cells (pQ q) 76)) p X2.heap.size (r.until [[32,61,32],[93]]) q from
   ⟨(k1.below D2).below ((Below.refl _ _).alloc ax _),
    ((Bq.out.grown g1 (fun e=>by have h1:=dX e;omega)).kept D2 ab).alloc _,
    az.new X2 _ _,(VD.out.trans g1).trans ((AE D2 _).trans (zI X2 _ _)),(((om.out.grown g1 hp).below D2).alloc _),Bi,ab,hp⟩)
  clear k1 g1 D2;unfold pQ at wA
  obtain⟨Y0,JP⟩:∃Y,Y=X2.alloc (.cells #[I q.node,I q.handler,I q.count,I q.kind,I q.index] 76):=⟨_,rfl⟩
  rw[<-JP] at wA;rw[<-JP];clear JP VD VE Bq om zf;generalize X2.heap.size=Q at wA⊢;clear QC acE
  go_upto_region 3 with(first
   |(go_at_call 104;refine(JM _ [32,61,32] p Y0 wA.out.rd).mono ?_;rintro e Y1 ⟨rfl,k1,g1⟩;have HY1:=ae (wA.out.step k1 g1);clear k1 g1)
   |(go_at_call 103;refine(zG _ _ p Y1 HY1.out.rd).mono ?_;rintro e Y2 ⟨rfl,k2,g2⟩;have QD:=ae (HY1.out.step k2 g2);clear k2 g2))
  have HY:=ae (show vY w Y2 p Q r.fP q from by
   have:=QD.out;unfold RS.fP;rw[Hq.out]
   exact this)
  have HqA:=ae (show r.eH.q=q by unfold RS.eH;rw[Hq.out];rfl);clear wA HY1 QD Hq hq
 case' none=>
  have Hq:=ae hq;go_enter Tryz.func106,Tryz.ntmps106
  go_upto_region 2 with(first
   |(go_at_call 105;refine(MJ r [[32,61,32],[93]] p _ _ VE.out om.out hl zf.out au hp).mono ?_;rintro e X1 ⟨rfl,k1,g1⟩)
   |(go_at_call 78;refine(anj _ X1 (om.out.grown g1 hp) HT.out).mono ?_;rintro e X2 ⟨rfl,D2⟩;unfold QuR pQ;rw[Hq.out];simp only[Option.getD_none,VB,Option.isSome_none]))
  have QC:=g1.size;simp only[World.size_alloc] at QC;have acE:=D2.size
  have wA:=ae (show vY w (X2.alloc (.cells (pQ oU) 76)) p X2.heap.size (r.until [[32,61,32],[93]]) oU from
   ⟨(k1.below D2).below ((Below.refl _ _).alloc ax _),
    ((Bq.out.grown g1 (fun e=>by have h1:=dX e;omega)).kept D2 ab).alloc _,
    az.new X2 _ _,(VD.out.trans g1).trans ((AE D2 _).trans (zI X2 _ _)),(((om.out.grown g1 hp).below D2).alloc _),Bi,ab,hp⟩)
  clear k1 g1 D2;unfold pQ at wA
  obtain⟨Y0,JP⟩:∃Y,Y=X2.alloc (.cells #[I oU.node,I oU.handler,I oU.count,I oU.kind,I oU.index] 76):=⟨_,rfl⟩
  rw[<-JP] at wA;rw[<-JP];clear JP VD VE Bq om zf;generalize X2.heap.size=Q at wA⊢;clear QC acE
  go_upto_region 3 with(go_at_call 103;refine(zG _ _ p Y0 wA.out.rd).mono ?_;rintro e Y2 ⟨rfl,k2,g2⟩;have QD:=ae (wA.out.step k2 g2);clear k2 g2)
  have HY:=ae (show vY w Y2 p Q r.fP oU from by
   have:=QD.out;unfold RS.fP;rw[Hq.out]
   exact this)
  have HqA:=ae (show r.eH.q=oU by unfold RS.eH;rw[Hq.out];rfl);clear wA QD Hq hq
  obtain⟨q,Lz⟩:∃q,q=oU:=⟨_,rfl⟩
  rw[<-Lz] at HY HqA;clear Lz
 all_goals
  have Hn:=ae (show r.AD=dK (r.fP.text [[47],[93]]) from rfl);have hT4:(r.fP.text [[47],[93]]).length<=4000000000:=bj (RS.VC _ _) (bj vQ.out hl);have LB:=ae (show iE (Y2.alloc (.cells #[.string ⟨#[47]⟩,.string ⟨#[93]⟩] 9)) Y2.heap.size [[47],[93]] from dV _ _);have VF:=ae (HY.out.alloc (.cells #[.string ⟨#[47]⟩,.string ⟨#[93]⟩] 9))
  go_upto_region 4 with(first
   |(go_at_call 105;refine(MJ r.fP [[47],[93]] p _ _ VF.out.rd VF.out.gl (bj vQ.out hl) LB.out au hp).mono ?_;rintro e Y4 ⟨rfl,k4,g4⟩;have VG:=ae (VF.out.step k4 g4);clear k4 g4)
   |(go_at_call 107;refine(Vz _ (r.fP.text [[47],[93]]) p Y4 VG.out.rd VG.out.gl hp hT4).mono ?_;rintro e Y5 ⟨rfl,k5,g5⟩;have HY5:=ae (VG.out.step k5 g5);clear k5 g5))
  go_upto_region 5 with(first
   |(go_at_call 104;refine(JM _ [47] p Y5 HY5.out.rd).mono ?_;rintro e Y6 ⟨rfl,k6,g6⟩;have HY6:=ae (HY5.out.step k6 g6);clear k6 g6)
   |(go_at_call 103;refine(zG _ _ p Y6 HY6.out.rd).mono ?_;rintro e Y7 ⟨rfl,k7,g7⟩;have HY7:=ae (HY6.out.step k7 g7);clear k7 g7))
  have HZ:=ae (show vY w Y7 p Q r.fP.ja q from HY7.out);rw[<-Hn.out];have hT9:(r.fP.ja.text [[93]]).length<=4000000000:=bj (RS.VC _ _) (bj CG.out (bj vQ.out hl));have Hs8:=ae (show iE (Y7.alloc (.cells #[.string ⟨#[93]⟩] 9)) Y7.heap.size [[93]] from dV _ _);have FJ:=ae (HZ.out.alloc (.cells #[.string ⟨#[93]⟩] 9));have HnA:=ae (show r.eH.n=r.AD from rfl);have H3:=ae (show r.mQ=r.fP.ja.rf r.AD from rfl);clear HY7 HY6 HY5 VG VF;generalize kB:r.AD=n at H3 HnA;clear kB Hn
  obtain⟨m,hm⟩:∃m,m=dK (r.fP.ja.text [[93]]):=⟨_,rfl⟩
  have Hm:=ae hm;clear hm;by_cases hlt:n<m
  case' pos=>
   have iX:(n:Int)<(m:Int):=ab;have ann:=ae (show r.fP.ja.rf n=(((r.fP.ja.until [[93]]).number (r.fP.ja.text [[93]])).skip [93]).must (((r.fP.ja.until [[93]]).number (r.fP.ja.text [[93]])).has [93]) by unfold RS.rf;rw[<-Hm.out];simp only[aq hlt])
   go_upto_region 6 with(first
    |(go_at_call 105;refine(MJ r.fP.ja [[93]] p _ _ FJ.out.rd FJ.out.gl (bj CG.out (bj vQ.out hl)) Hs8.out au hp).mono ?_;rintro e Y9 ⟨rfl,k9,g9⟩;have Dn:=ae (FJ.out.step k9 g9);clear k9 g9)
    |(go_at_call 107;refine(Vz _ (r.fP.ja.text [[93]]) p Y9 Dn.out.rd Dn.out.gl hp hT9).mono ?_;rintro e Y10 ⟨rfl,k10,g10⟩;rw[<-Hm.out];have JQ:=ae (Dn.out.step k10 g10);clear k10 g10)
    |(go_at_call 104;refine(JM _ [93] p Y10 JQ.out.rd).mono ?_;rintro e Y11 ⟨rfl,k11,g11⟩;have acF:=ae (JQ.out.step k11 g11);clear k11 g11)
    |(go_at_call 103;refine(zG _ _ p Y11 acF.out.rd).mono ?_;rintro e Y12 ⟨rfl,k12,g12⟩;have acG:=ae (acF.out.step k12 g12);clear k12 g12))
   clear acF JQ Dn FJ
  case' neg=>
   have iX:¬(n:Int)<(m:Int):=ab;have ann:=ae (show r.fP.ja.rf n=((r.fP.ja.until [[93]]).number (r.fP.ja.text [[93]])).must false by unfold RS.rf;rw[<-Hm.out];simp only[af hlt])
   go_upto_region 6 with(first
    |(go_at_call 105;refine(MJ r.fP.ja [[93]] p _ _ FJ.out.rd FJ.out.gl (bj CG.out (bj vQ.out hl)) Hs8.out au hp).mono ?_;rintro e Y9 ⟨rfl,k9,g9⟩;have Dn:=ae (FJ.out.step k9 g9);clear k9 g9)
    |(go_at_call 107;refine(Vz _ (r.fP.ja.text [[93]]) p Y9 Dn.out.rd Dn.out.gl hp hT9).mono ?_;rintro e Y10 ⟨rfl,k10,g10⟩;rw[<-Hm.out];have JQ:=ae (Dn.out.step k10 g10);clear k10 g10)
    |(go_at_call 103;refine(zG _ _ p Y10 JQ.out.rd).mono ?_;rintro e Y12 ⟨rfl,k12,g12⟩;have acG:=ae (JQ.out.step k12 g12);clear k12 g12))
   clear JQ Dn FJ
  all_goals
   have HF:=ae (show vY w Y12 p Q r.mQ q by rw[H3.out,ann.out];exact acG.out);have JR:=HF.out.qb;have cg:=HF.out.res;unfold pQ at JR;unfold z6 at cg;have q0:=JR.cell 0;have q1:=JR.cell 1;have q2:=JR.cell 2;have q3:=JR.cell 3;have q4:=JR.cell 4;have r0:=cg.cell 0;have r1:=cg.cell 1;have r2:=cg.cell 2;have r3:=cg.cell 3;have r4:=cg.cell 4;have r5:=cg.cell 5;have g0:=cg.frozen 0;have g1:=cg.frozen 1;have g2:=cg.frozen 2;have g3:=cg.frozen 3;have g4:=cg.frozen 4;have g5:=cg.frozen 5;clear JR cg acG;go_wp2_with fail;exact aEh HF.out HqA.out _ HnA.out rfl
end
section
open Go.RowKit
variable {B E p:Nat} {X X' w:World}
theorem lQ.aEj{r:RS}{ev:Ev}{row:Option Nat}(h:lQ w X p E r ev)(hg:X.grownBy X' row)(hE:∀g,row=some g->E<g):lQ w X' p E r ev:=by
 cases row with
 |some g=>exact h.row hg (hE g rfl)
 |none=>exact h.below ⟨hg.os,hg.tape,hg.output,hg.size,fun k hk=>hg.block k hk ai⟩
theorem RS.acH(r:RS)(p:aj)(h:r.has p=false):r.skip p=r:=by
 obtain⟨rest,bad⟩:=r;unfold RS.skip RS.has at*;simp only[] at h;simp[Lib.trimPrefix,h]
def sliceLen:Value->Nat
 | .slice _ n _=>n
 |_=>0
theorem RS.MN(f:Nat)(r:RS)(h:r.bad=true):r.asks f=([],r):=by
 cases f with
 |zero=>rfl
 |succ f=>unfold RS.asks;rw[aq h]
theorem RS.VH(f:Nat)(r:RS)(h:r.has [32,91]=false):r.asks f=([],r):=by
 cases f with
 |zero=>rfl
 |succ f=>
  unfold RS.asks;rw[af (show¬r.has [32,91]=true by rw[h];simp)];split<;>rfl
theorem RS.VJ(f:Nat)(r:RS)(hb:r.bad=false)(h:r.has [32,91]=true):r.asks (f+1)=((r.skip [32,91]).eH::((r.skip [32,91]).mQ.asks f).1,((r.skip [32,91]).mQ.asks f).2):=by
 conv=>lhs;unfold RS.asks
 rw[af (show¬r.bad=true by rw[hb];simp),aq h]
theorem RS.ano(r:RS)(p:aj)(h:r.has p=true):(r.skip p).rest.length=r.rest.length-p.length/\p.length<=r.rest.length:=by
 unfold RS.has at h;have hp:p<+:r.rest:=FU.1 h;refine⟨?_,hp.length_le⟩;unfold RS.skip;simp only[Lib.trimPrefix,h,nk,lU]
theorem rL{e k n:Nat}{v:Value}{xs:List Value}(h:X.ownsRow B e k v n xs)(hg:X.grownBy X' (some p))(hp:p<B):X'.ownsRow B e k v n xs:=
 h.kept hg (by
  cases hv:v.ownBlock with
  |none=>exact .inl rfl
  |some g=>exact .inr (fun e=>by have:=(h.lt g hv).1;have:=dX e;omega))
theorem aEk(t:aj):EvR t=.tuple #[.agg #[I ((gY t).getD oT).kind,I ((gY t).getD oT).node,I ((gY t).getD oT).arg,I ((gY t).getD oT).msg.node,I ((gY t).getD oT).msg.handler,I ((gY t).getD oT).msg.count,I ((gY t).getD oT).msg.index,I ((gY t).getD oT).msg.copy],I (ML (gY t))]:=rfl
theorem aEl(o:Option Ev):(ML o==0)=o.isSome:=by cases o<;>rfl
theorem anp{am:Nat}{W:World}{ev:Ev}{le:RS}{la:List aL×RS}{av:Option Addr}{acp:Nat}{tmps:Array Value}{L:List aL×RS}{M:RS}(hL0:la=L)(hM0:le=M)(HL:lQ w W p E le ev)(bl:W.ownsRow B 161 6 (.slice av am acp) am (la.1.flatMap ac))(ham:am=la.1.length)(hB:w.heap.size<B)(h4:tmps.getD 4 undef=.pointer (some ⟨w.heap.size,0,none⟩))(h5:tmps.getD 5 undef=.slice av am acp):
  bodyPost Tryz.prog Tryz.f52 (fun e w'=>∃va,e=.returned (.tuple #[.agg (iH ev),va])/\kS w' va L.1/\(∀g,va.ownBlock=some g->w.heap.size<=g)/\gD w' p M/\w.grownBy w' (some p)) .ret { tmps:=tmps,defers:=[] }
   ((((((((W.setCell ⟨w.heap.size,0,none⟩ (I ev.kind)).setCell ⟨w.heap.size,1,none⟩ (I ev.node)).setCell ⟨w.heap.size,2,none⟩ (I ev.arg)).setCell ⟨w.heap.size,3,none⟩ (I ev.msg.node)).setCell ⟨w.heap.size,4,none⟩ (I ev.msg.handler)).setCell ⟨w.heap.size,5,none⟩ (I ev.msg.count)).setCell ⟨w.heap.size,6,none⟩ (I ev.msg.index)).setCell ⟨w.heap.size,7,none⟩ (I ev.msg.copy)):=by
 subst hL0 hM0
 have key:∀V,az V w.heap.size (iH ev)->W.grownBy V (some w.heap.size)->bodyPost Tryz.prog Tryz.f52 (fun e w'=>∃va,e=.returned (.tuple #[.agg (iH ev),va])/\kS w' va la.1/\(∀g,va.ownBlock=some g->w.heap.size<=g)/\gD w' p le/\w.grownBy w' (some p)) .ret { tmps:=tmps,defers:=[] } V:=by
  intro V h1 hg;have wv:=rL bl hg hB;have hL:=aEa h1 rfl
  have hr:(results Tryz.f52 tmps).run Tryz.prog V=.ok (.tuple #[.agg (iH ev),.slice av am acp]) V:=by
   rw[results_cell_tmp Tryz.results52,h4,h5];simp only[asAddr,tw,rP];rw[hL];rfl
  subst ham;refine DI hr rfl ⟨_,rfl,Flat.eu wv,?_,HL.rd.grown hg (fun e=>by have:=dX e;have:=HL.hp;omega),abm HL.gr hg ax⟩;intro g hgo;have:=(wv.lt g hgo).1;omega
 obtain⟨h1,hg⟩:=aEb HL.res (I ev.kind) (I ev.node) (I ev.arg) (I ev.msg.node) (I ev.msg.handler) (I ev.msg.count) (I ev.msg.index) (I ev.msg.copy);exact key _ h1 hg
theorem aEm(l:aj):List.isEmpty l=(l==[]):=by cases l<;>rfl
theorem aEn(i:Nat)(s:aj)(p:Nat)(w:World)(h:gD w p ⟨s,false⟩)(hg:Gl w)(hp:8<=p)(hl:s.length<=1000000)(hi:i<=1000000):
  Calls Tryz.prog 52 #[.pointer (some ⟨p,0,none⟩),I i] w fun e w'=>∃va,e=.returned (.tuple #[.agg (iH ((zF i s).getD oT)),va])/\kS w' va (uA i s).1/\(∀g,va.ownBlock=some g->w.heap.size<=g)/\gD w' p (Dm i s)/\w.grownBy w' (some p):=by
 have Bi:p<w.heap.size:=az.lt h
 have ez:¬9223372036854775807<(Lib.decDigits i).length+2:=by have:=acr i;omega
 have lj:=ae (fun X (hX:Gl X)=>EC (i:Int) ⟨ab,ab⟩ X hX);have HG:=ae (hg.alloc (.cells #[.int .i64 0,.int .i64 0,.int .i64 0,.int .i64 0,.int .i64 0,.int .i64 0,.int .i64 0,.int .i64 0] 41));have Hr0:=ae (gD.below h ((Below.refl _ _).alloc ax (.cells #[.int .i64 0,.int .i64 0,.int .i64 0,.int .i64 0,.int .i64 0,.int .i64 0,.int .i64 0,.int .i64 0] 41)));have Dp:=ae (show az (w.alloc (.cells #[.int .i64 0,.int .i64 0,.int .i64 0,.int .i64 0,.int .i64 0,.int .i64 0,.int .i64 0,.int .i64 0] 41)) w.heap.size z8 from az.new w _ _);have Hw0:=ae (zI w (.cells #[.int .i64 0,.int .i64 0,.int .i64 0,.int .i64 0,.int .i64 0,.int .i64 0,.int .i64 0,.int .i64 0] 41) (some p));have eZ:(w.alloc (.cells #[.int .i64 0,.int .i64 0,.int .i64 0,.int .i64 0,.int .i64 0,.int .i64 0,.int .i64 0,.int .i64 0] 41)).heap.size=w.heap.size+1:=World.size_alloc _ _;clear h hg
 obtain⟨ev,bT⟩:∃ev,ev=(zF i s).getD oT:=⟨_,rfl⟩
 obtain⟨cd,Ey⟩:∃cd,cd=ML (zF i s):=⟨_,rfl⟩
 have mC:=ae bT;have Hcd:=ae Ey;rw[<-bT];clear bT Ey;go_enter Tryz.func52,Tryz.ntmps52
 obtain⟨W0,EJ⟩:∃W0,W0=w.alloc (.cells #[.int .i64 0,.int .i64 0,.int .i64 0,.int .i64 0,.int .i64 0,.int .i64 0,.int .i64 0,.int .i64 0] 41):=⟨_,rfl⟩
 go_upto_region 1 with fail;rw[<-EJ] at HG Hr0 Dp Hw0 eZ⊢;clear EJ
 go_upto_region 2 with(first
  |(go_at_call 29;refine(lj.out _ HG.out).mono ?_;rintro e X1 ⟨rfl,D1⟩;rw[Lib.itoa_nonneg];unfold sv)
  |(go_at_call 104;rw[cH];refine(JM ⟨s,false⟩ (head i) p X1 (Hr0.out.below D1)).mono ?_;rintro e X2 ⟨rfl,k2,g2⟩)
  |(go_at_call 103;refine(zG _ _ p X2 k2).mono ?_;rintro e X3 ⟨rfl,k3,g3⟩))
 have hD1:=D1.size;have h2s:=g2.size;have h3s:=g3.size;have HX3:=ae (show gD X3 p (pZ i s) from k3);have HR3:=ae (((Dp.out.kept D1 ab).grown g2 (fun e=>by have:=dX e;omega)).grown g3 (fun e=>by have:=dX e;omega));have LG:=ae (((HG.out.below D1).grown g2 hp).grown g3 hp);have Hw3:=ae (((Hw0.out.trans (AE D1 _)).trans g2).trans g3);have vJ:w.heap.size<X3.heap.size:=ab;have hlh:(pZ i s).rest.length<=s.length:=RS.JO ⟨s,false⟩ (head i);have VK:=ae hlh;clear k2 k3 g2 g3 D1 hD1 h2s h3s Hr0 Dp HG Hw0 eZ lj hlh;have HS:=ae (show iE (X3.alloc (.cells #[.string ⟨#[32,91]⟩,.string ⟨#[32,42]⟩,.string ⟨#[32,97,102,116,101,114,32]⟩] 9)) X3.heap.size lr from dV _ _);have JS:=ae (show aw X3 (X3.alloc (.cells #[.string ⟨#[32,91]⟩,.string ⟨#[32,42]⟩,.string ⟨#[32,97,102,116,101,114,32]⟩] 9)) from(Below.refl _ _).alloc ax _);have IU:(X3.alloc (.cells #[.string ⟨#[32,91]⟩,.string ⟨#[32,42]⟩,.string ⟨#[32,97,102,116,101,114,32]⟩] 9)).heap.size=X3.heap.size+1:=World.size_alloc _ _
 go_upto_region 3 with(first
  |(go_at_call 105;refine(MJ (pZ i s) lr p X3.heap.size _ (HX3.out.below JS.out) (LG.out.below JS.out) (by have:=VK.out;omega) HS.out au hp).mono ?_;rintro e X4 ⟨rfl,k4,g4⟩)
  |(go_at_call 76;refine(aEe _ X4 ((LG.out.below JS.out).grown g4 hp) (by have:=VK.out;have:=RS.VC (pZ i s) lr;omega)).mono ?_;rintro e X5 ⟨rfl,D5⟩;rw[aEk,show(gY ((pZ i s).text lr)).getD oT=ev from mC.out.symm,show ML (gY ((pZ i s).text lr))=cd from Hcd.out.symm]))
 have h4s:=g4.size;have h5s:=D5.size
 have MO:=ae (show lQ w (X5.alloc (.cells (iH ev) 41)) p X5.heap.size ((pZ i s).until lr) ev from
  ⟨(k4.below D5).below ((Below.refl _ _).alloc ax _),
   (((HR3.out.kept JS.out ab).grown g4 (fun e=>by have:=dX e;omega)).kept D5 ab).alloc _,
   az.new X5 _ _,(((Hw3.out.trans (AE JS.out _)).trans g4).trans (AE D5 _)).trans (zI X5 _ _),((((LG.out.below JS.out).grown g4 hp).below D5).alloc _),Bi,ab,hp⟩)
 have hE4:(pZ i s).rest.length<=s.length:=VK.out;clear k4 g4 D5 h4s h5s HS JS IU vJ HX3 HR3 LG Hw3 VK;unfold iH at MO
 obtain⟨X6,hX6⟩:∃Y,Y=X5.alloc (.cells #[I ev.kind,I ev.node,I ev.arg,I ev.msg.node,I ev.msg.handler,I ev.msg.count,I ev.msg.index,I ev.msg.copy] 41):=⟨_,rfl⟩
 rw[<-hX6] at MO⊢;clear hX6;generalize X5.heap.size=E at MO⊢
 go_upto_block 0 with(go_at_call 103;refine(zG _ _ p X6 MO.out.rd).mono ?_;rintro e X7 ⟨rfl,k7,g7⟩;have HX7:=ae (MO.out.step k7 g7);clear k7 g7)
 have hc:=aEl (zF i s);rw[<-Hcd.out] at hc
 have HL:=ae (show lQ w X7 p E (yc i s) ev by
  have:=HX7.out;rw[hc] at this
  exact this)
 have eF:(yc i s).rest.length<=s.length:=bj (RS.QB (pZ i s) lr) hE4;clear HX7 MO hc hE4;have VL:=ae (show uA i s=(yc i s).asks (s.length+1) from rfl);have VN:=ae (show Dm i s=RS.tail i (uA i s).2 from rfl);generalize yc i s=rr at HL VL eF
 obtain⟨la,acI⟩:∃la,la=uA i s:=⟨_,rfl⟩
 obtain⟨le,acJ⟩:∃le,le=Dm i s:=⟨_,rfl⟩
 rw[<-acI] at VL VN;rw[<-acJ] at VN;have anq:=ae acI;have anr:=ae acJ;clear acI acJ;have hEX:E<X7.heap.size:=HL.out.Mi.lt
 have wB:p<X7.heap.size:=by have:=HL.out.hE;omega
 go_cut [8] from 31 to 44 (fun v wc=>∃(av:Option Addr) (am mW:Nat),v=.slice av am mW/\am=la.1.length/\Hid (lQ w wc p E la.2 ev)/\la.2.rest.length<=1000000/\X7.heap.size<=wc.heap.size/\Hid (wc.ownsRow X7.heap.size 161 6 (.slice av am mW) la.1.length (la.1.flatMap ac)))
 case first=>
  go_wp2_with fail;go_loopw [8] (fun v wr=>∃(k:Nat) (av:Option Addr) (mW:Nat) (acc:List aL) (f:Nat) (r2:RS),v=.slice av k mW/\k=acc.length/\acc.length+r2.rest.length<=s.length/\r2.rest.length<f/\Hid (lQ w wr p E r2 ev)/\Hid (la=(acc++(r2.asks f).1,(r2.asks f).2))/\X7.heap.size<=wr.heap.size/\Hid (wr.ownsRow X7.heap.size 161 6 (.slice av k mW) k (acc.flatMap ac))) (fun v _=>s.length+1-sliceLen v)
  case atStart=>exact⟨0,none,0,[],s.length+1,rr,rfl,rfl,by simpa using eF,ab,HL,ae (by rw[VL.out];rfl),cK _,ae (ko _ _ _ _)⟩
  case round=>
   obtain⟨k,av,mW,acc,f,r2,rfl,rfl,uU,hf,ye,FK,Xh,jd⟩:=hrel;have c1:wr.cell? ⟨p,1,none⟩=some (.bool r2.bad):=az.cell ye.out.rd 1
   cases rG:r2.bad with
   |true=>
    rw[rG] at c1;have qd:=ae (show la=(acc,r2) by rw[FK.out,RS.MN f r2 rG];simp);clear rG FK;go_wp2_with fail;go_meet
    case rel=>exact⟨av,acc.length,mW,rfl,by rw[qd.out],by rw[qd.out];exact ye,by rw[qd.out];show r2.rest.length<=1000000;omega,Xh,by rw[qd.out];exact jd⟩
   |false=>
    rw[rG] at c1;have ki:=JM r2 [32,91] p wr ye.out.rd
    cases nP:r2.has [32,91] with
    |false=>
     have qd:=ae (show la=(acc,r2) by rw[FK.out,RS.VH f r2 nP];simp);rw[nP,RS.acH r2 _ nP] at ki;have Br:=ae ki;clear rG FK nP ki
     go_wp2_with (go_at_call 104;refine Br.out.mono ?_;rintro e Y1 ⟨rfl,k1,g1⟩)
     go_meet
     case rel=>exact⟨av,acc.length,mW,rfl,by rw[qd.out],by rw[qd.out];exact ae (ye.out.step k1 g1),by rw[qd.out];show r2.rest.length<=1000000;omega,by have:=g1.size;omega,by rw[qd.out];exact ae (rL jd.out g1 wB)⟩
    |true=>
     obtain⟨f,rfl⟩:∃f',f=f'+1:=⟨f-1,ab⟩
     have cq:=RS.ano r2 _ nP;have MH:=RS.anm (r2.skip [32,91]);have QE:=ae (show la=((acc++[(r2.skip [32,91]).eH])++((r2.skip [32,91]).mQ.asks f).1,((r2.skip [32,91]).mQ.asks f).2) by rw[FK.out,RS.VJ f r2 rG nP];simp);rw[nP] at ki;have Br:=ae ki;have Dh:(r2.skip [32,91]).rest.length<=4000000000:=ab;have LJ:([32,91]:aj).length=2:=rfl;rw[LJ] at cq;have Hsl:=ae cq;have acK:=ae MH;clear rG FK nP ki cq MH LJ;generalize r2.skip [32,91]=r3 at Br QE Dh Hsl acK
     go_wp2_with (first
      |(go_at_call 104;refine Br.out.mono ?_;rintro e Y1 ⟨rfl,k1,g1⟩;have Dq:=ae (ye.out.step k1 g1);have hy1:=g1.size;have QF:=ae (rL jd.out g1 wB);clear k1 g1)
      |(go_at_call 106;refine(aEi r3 p Y1 Dq.out.rd Dq.out.gl hp Dh).mono ?_;rintro e Y2 ⟨rfl,k2,g2⟩;have Bs:=ae (Dq.out.step k2 g2);have vK:=g2.size;have wv:=ae (rL QF.out g2 wB);clear k2 g2)
      |(at_builtin;go_must (refine tB rfl _ _ 47 rfl 161 _ 6 48 Tryz.underlying47 WH rfl ab ab X7.heap.size (.slice av acc.length mW) acc.length (acc.flatMap ac) rfl (wv.out.alloc _) Y2.heap.size 1 1 #[I r3.eH.q.node,I r3.eH.q.handler,I r3.eH.q.count,I r3.eH.q.kind,I r3.eH.q.index,I r3.eH.n] 161 rfl (dV _ _) rfl rfl ab ab (by rw[World.size_alloc];omega) ?_);intro g5 ui w5 fQ gE je jy nJ eI))
     go_roundw
     case rel=>exact⟨acc.length+1,_,_,acc++[r3.eH],f,r3.mQ,by go_num,ai,by have:=Hsl.out;have:=acK.out;simp;omega,by have:=Hsl.out;have:=acK.out;omega,ae ((Bs.out.alloc _).aEj nJ (fun g hg=>by have:=(wv.out.lt g hg).1;omega)),QE,by have:=nJ.size;rw[World.size_alloc] at this;omega,ae (by rw[oY];simpa [ac,iv,aL.ints] using jy)⟩
     case measure=>simp[sliceLen];omega
 case rest=>
  obtain⟨av,am,mW,rfl,rfl,VO,aHj,hXc,jd⟩:=hcut;have aHk:=VO.out.Mi.lt;have HT:=ae (show le=(if(la.2.skip [32,42]).has [32,97,102,116,101,114,32]=true then(⟨[],(RS.sI i (-1) (bW 44 ((la.2.skip [32,42]).skip [32,97,102,116,101,114,32]).rest) ((la.2.skip [32,42]).skip [32,97,102,116,101,114,32])).bad⟩:RS).must true else((la.2.skip [32,42]).skip [32,97,102,116,101,114,32]).must (((la.2.skip [32,42]).skip [32,97,102,116,101,114,32]).rest==[])) by rw[VN.out];unfold RS.tail;simp only[];split<;>rfl)
  have hwX:w.heap.size<X7.heap.size:=by have:=VO.out.hE;have:=HL.out.hE;omega
  clear HL VL VN;have aEo:=RS.JO la.2 [32,42]
  go_upto_region 8 with(go_at_call 104;refine(JM la.2 [32,42] p wc VO.out.rd).mono ?_;rintro e Y1 ⟨rfl,k1,g1⟩;have Dq:=ae (VO.out.step k1 g1);have hy1:=g1.size;have QF:=ae (rL jd.out g1 wB);clear k1 g1)
  generalize la.2.skip [32,42]=q1 at Dq HT aEo;have aEp:=RS.JO q1 [32,97,102,116,101,114,32];have ki:=JM q1 [32,97,102,116,101,114,32] p Y1 Dq.out.rd
  cases nP:q1.has [32,97,102,116,101,114,32] with
  |false=>
   rw[nP] at HT;rw[nP,RS.acH q1 _ nP] at ki;have acL:=ae (show le=q1.must (q1.rest==[]) by rw[HT.out,af ai,RS.acH q1 _ nP]);have Br:=ae ki;clear ki nP HT
   go_upto_region 18 with(go_at_call 104;refine Br.out.mono ?_;rintro e Y2 ⟨rfl,k2,g2⟩;have Bs:=ae (Dq.out.step k2 g2);have vK:=g2.size;have wv:=ae (rL QF.out g2 wB);clear k2 g2)
   have c0:Y2.cell? ⟨p,0,none⟩=some (sv q1.rest):=az.cell Bs.out.rd 0;unfold sv at c0
   go_upto_region 19 with(go_at_call 103;rw[aEm];refine(zG q1 (q1.rest==[]) p Y2 Bs.out.rd).mono ?_;rintro e Z ⟨rfl,k9,g9⟩;have HZ:=ae (Bs.out.step k9 g9);have acM:=ae (rL wv.out g9 wB);clear k9 g9)
   have HZ:=ae (show lQ w Z p E le ev by rw[acL.out];exact HZ.out);have bT:=HZ.out.Mi;have cg:=HZ.out.res;unfold iH at bT;unfold z8 at cg;have m0:=bT.cell 0;have m1:=bT.cell 1;have m2:=bT.cell 2;have m3:=bT.cell 3;have m4:=bT.cell 4;have m5:=bT.cell 5;have m6:=bT.cell 6;have m7:=bT.cell 7;have r0:=cg.cell 0;have r1:=cg.cell 1;have r2:=cg.cell 2;have r3:=cg.cell 3;have r4:=cg.cell 4;have r5:=cg.cell 5;have r6:=cg.cell 6;have r7:=cg.cell 7;have g0:=cg.frozen 0;have g1:=cg.frozen 1;have g2:=cg.frozen 2;have g3:=cg.frozen 3;have g4:=cg.frozen 4;have g5:=cg.frozen 5;have g6:=cg.frozen 6;have g7:=cg.frozen 7;clear bT cg;go_wp2_with fail;exact anp anq.out anr.out HZ.out acM.out rfl hwX rfl rfl
  |true=>
   rw[nP] at HT ki;have OH:=ae (show le=(⟨[],(RS.sI i (-1) (bW 44 (q1.skip [32,97,102,116,101,114,32]).rest) (q1.skip [32,97,102,116,101,114,32])).bad⟩:RS).must true by rw[HT.out,aq rfl]);have Br:=ae ki;clear ki nP HT;generalize q1.skip [32,97,102,116,101,114,32]=q2 at Br OH aEp;have Hle:=ae (Ta 44 q2.rest)
   have vO:(bW 44 q2.rest).length<=1000001:=by
    rw[Lj];have:=Ka (a:=(44:UInt8)) (l:=q2.rest);omega
   have Bt:=ae (fun X (hX:Gl X)=>YW q2.rest 44 X hX ab);generalize bW 44 q2.rest=ws at OH Hle Bt vO;unfold sv at Bt
   go_wp2_with (first
    |(go_at_call 104;refine Br.out.mono ?_;rintro e Y2 ⟨rfl,k2,g2⟩;have Bs:=ae (Dq.out.step k2 g2);have vK:=g2.size;have wv:=ae (rL QF.out g2 wB);have c0:Y2.cell? ⟨p,0,none⟩=some (sv q2.rest):=az.cell Bs.out.rd 0;unfold sv at c0;clear k2 g2)
    |(go_at_call 51;refine(Bt.out Y2 Bs.out.gl).mono ?_;rintro e Y3 ⟨rfl,Aa,zl,vJ⟩))
   have HL3:=ae (Bs.out.below zl);have aEq:=ae (pj wv.out zl);have Hws:=ae Aa;have hYz:=zl.size;clear Aa zl Bs wv Dq QF c0 Bt Br;go_loopw [9,55] (fun vl vi wr=>∃(k:Nat) (last:Int) (q3:RS),vl=.int .i64 last/\vi=.int .i64 k/\k<=ws.length/\Hid (lQ w wr p E q3 ev)/\Hid (RS.sI i (-1) ws q2=RS.sI i last (ws.drop k) q3)/\Hid (wr.ownsRow X7.heap.size 161 6 (.slice av la.1.length mW) la.1.length (la.1.flatMap ac))/\Hid (iE wr Y2.heap.size ws)) (fun _ vi _=>ws.length-(intOf vi).toNat)
   case atStart=>exact⟨0,-1,q2,rfl,rfl,ab,HL3,ae rfl,aEq,Hws⟩
   case round=>
    obtain⟨k,last,q3,rfl,rfl,hk,ye,Haf,Dr,Hwr⟩:=hrel;by_cases hlt:k<ws.length
    ·have hcell:wr.cell? ⟨Y2.heap.size,k,none⟩=some (sv ws[k]):=iE.cell Hwr.out (by simp[hlt]);have xQ:=Haf.out;rw[List.drop_eq_getElem_cons hlt] at xQ;have VP:=ae (show RS.sI i (-1) ws q2=RS.sI i (dK ws[k]) (ws.drop (k+1)) ((q3.number ws[k]).must (decide (last<(dK ws[k]:Int)) && decide (dK ws[k]<i))) from xQ)
     have Df:(ws[k]).length<=4000000000:=by have:=Hle.out _ (bP hlt);omega
     clear xQ;have hpY:p<Y2.heap.size:=ab
     have Vq:decide ((dK ws[k]:Int)<(i:Int))=decide (dK ws[k]<i):=by rw[rR];simp
     have HkI:=ae Vq;clear Vq;generalize ws[k]=q at hcell VP Df HkI;unfold sv at hcell;have VQ:=ae (Vz q3 q p wr ye.out.rd ye.out.gl hp Df);unfold sv at VQ;generalize dK q=nv at VQ VP HkI;by_cases cF:last<(nv:Int)
     ·have jx:decide (last<(nv:Int))=true:=ft cF;have acN:=ae (show RS.sI i (-1) ws q2=RS.sI i nv (ws.drop (k+1)) ((q3.number q).must (decide (nv<i))) by rw[VP.out,jx];rfl);clear jx
      go_wp2_with (first
       |(go_at_call 107;refine VQ.out.mono ?_;rintro e Z1 ⟨rfl,k1,g1⟩;have QG:=ae (ye.out.step k1 g1);have acO:=ae (rL Dr.out g1 wB);have acP:=ae (Hwr.out.grown g1 ab);clear k1 g1)
       |(go_at_call 103;refine(zG _ _ p Z1 QG.out.rd).mono ?_;rintro e Z2 ⟨rfl,k2,g2⟩;have HZ2:=ae (QG.out.step k2 g2);have acQ:=ae (rL acO.out g2 wB);have acR:=ae (acP.out.grown g2 ab);clear k2 g2))
      go_roundw
      case rel=>exact⟨k+1,_,_,rfl,by go_num,ab,HZ2,acN,acQ,acR⟩
      case measure=>simp[intOf];omega
     ·have jx:decide (last<(nv:Int))=false:=jk cF;have acN:=ae (show RS.sI i (-1) ws q2=RS.sI i nv (ws.drop (k+1)) ((q3.number q).must false) by rw[VP.out,jx];rfl);clear jx
      go_wp2_with (first
       |(go_at_call 107;refine VQ.out.mono ?_;rintro e Z1 ⟨rfl,k1,g1⟩;have QG:=ae (ye.out.step k1 g1);have acO:=ae (rL Dr.out g1 wB);have acP:=ae (Hwr.out.grown g1 ab);clear k1 g1)
       |(go_at_call 103;refine(zG _ _ p Z1 QG.out.rd).mono ?_;rintro e Z2 ⟨rfl,k2,g2⟩;have HZ2:=ae (QG.out.step k2 g2);have acQ:=ae (rL acO.out g2 wB);have acR:=ae (acP.out.grown g2 ab);clear k2 g2))
      go_roundw
      case rel=>exact⟨k+1,_,_,rfl,by go_num,ab,HZ2,acN,acQ,acR⟩
      case measure=>simp[intOf];omega
    ·obtain rfl:k=ws.length:=ab;have acL:=ae (show le=(⟨[],q3.bad⟩:RS).must true by rw[OH.out,Haf.out,FX ax];rfl);have Ag:=ye.out.rd;have c0:wr.cell? ⟨p,0,none⟩=some (sv q3.rest):=az.cell Ag 0;have f0:=az.frozen Ag 0;have Hs:=ae (show gD (wr.setCell ⟨p,0,none⟩ (sv [])) p ⟨[],q3.bad⟩ from az.set Ag 0 (sv []));clear Ag;unfold sv at c0 Hs;go_upto_region 18 with fail;have HV:=ae (ye.out.step Hs.out (lS wr ⟨p,0,none⟩ _));have ant:=ae (rL Dr.out (lS wr ⟨p,0,none⟩ (.string ⟨([]:aj).toArray⟩)) wB);clear c0 f0 Hs
     obtain⟨V,hV⟩:∃V,V=wr.setCell ⟨p,0,none⟩ (.string ⟨([]:aj).toArray⟩):=⟨_,rfl⟩
     rw[<-hV] at HV ant⊢;clear hV;have c0:V.cell? ⟨p,0,none⟩=some (sv (⟨[],q3.bad⟩:RS).rest):=az.cell HV.out.rd 0;unfold sv at c0
     go_upto_region 19 with(go_at_call 103;refine(zG (⟨[],q3.bad⟩:RS) true p V HV.out.rd).mono ?_;rintro e Z ⟨rfl,k9,g9⟩;have HZ:=ae (HV.out.step k9 g9);have acM:=ae (rL ant.out g9 wB);clear k9 g9)
     have HZ:=ae (show lQ w Z p E le ev by rw[acL.out];exact HZ.out);have bT:=HZ.out.Mi;have cg:=HZ.out.res;unfold iH at bT;unfold z8 at cg;have m0:=bT.cell 0;have m1:=bT.cell 1;have m2:=bT.cell 2;have m3:=bT.cell 3;have m4:=bT.cell 4;have m5:=bT.cell 5;have m6:=bT.cell 6;have m7:=bT.cell 7;have r0:=cg.cell 0;have r1:=cg.cell 1;have r2:=cg.cell 2;have r3:=cg.cell 3;have r4:=cg.cell 4;have r5:=cg.cell 5;have r6:=cg.cell 6;have r7:=cg.cell 7;have g0:=cg.frozen 0;have g1:=cg.frozen 1;have g2:=cg.frozen 2;have g3:=cg.frozen 3;have g4:=cg.frozen 4;have g5:=cg.frozen 5;have g6:=cg.frozen 6;have g7:=cg.frozen 7;clear bT cg;go_wp2_with fail;exact anp anq.out anr.out HZ.out acM.out rfl hwX rfl rfl
end
section
open Go.RowKit
theorem VS {w:World}{B n k:Nat}{e:TypeId}{v:Value}{xs:List Value}(h:w.ownsRow B e k v n xs){j:Nat}(hj:j<B):v.ownBlock=none\/v.ownBlock≠some j:=by
 cases hv:v.ownBlock with
 |none=>exact .inl rfl
 |some g=>exact .inr (fun e=>by have:=(h.lt g hv).1;simp at e;omega)
end
section
open Go.RowKit
theorem Two.aEr {W0 X w6:World}{gt:Nat}{ve va:Value}{evs:List Ev}{l:List aL}(h:Two W0 X gt ve va evs l)(e:Ev){g6 ry n:Nat}(h2:ve.ownBlock=some g6\/g6=X.heap.size)
  (h3:w6.ownsRow (gt+1) 41 8 (.slice (some ⟨g6,0,none⟩) (n+1) ry) (n+1) (evs.flatMap ec++ec e)) (hn:n=evs.length) (h4:X.grownBy w6 ve.ownBlock):
  Two W0 (w6.setCell ⟨gt,0,none⟩ (.slice (some ⟨g6,0,none⟩) (n+1) ry)) gt (.slice (some ⟨g6,0,none⟩) (n+1) ry) va (evs++[e]) l:=by
 subst hn;have tG:gt+1<=g6:=(h3.lt g6 rfl).1;have JT:az w6 gt #[ve,va]:=h.dM.grown h4 (fun e=>by have:=(h.oe.lt gt e).1;omega);refine⟨JT.set 0 _,?_,?_,?_,?_⟩
 ·rw[List.length_append,oY];simp only[rO,List.flatMap_nil,rS];exact h3.kept (EU w6 ⟨gt,0,none⟩ _) (VS h3 (by show gt<gt+1;omega))
 ·refine(h.oa.kept h4 ?_).kept (EU w6 ⟨gt,0,none⟩ _) (VS h.oa (by show gt<gt+1;omega))
  cases hv:va.ownBlock with
  |none=>exact .inl rfl
  |some j=>exact .inr (fun e=>h.ne j e.symm hv)
 ·intro j hj hv;simp[Value.ownBlock] at hj;subst hj
  rcases h2 with h2|h2
  ·exact h.ne _ h2 hv
  ·have:=(h.oa.lt _ hv).2;omega
 ·refine(h.below.grown h4 (by have:=h.dM.lt;omega) (fun j hj=>by have:=(h.oe.lt j hj).1;omega)).setCell ai _
end
section
open Go.RowKit
variable {B e g k m:Nat} {W w:World} {l:List aj} {r:Cq} {tmps:Array Value} {v:Value} {xs:List Value}
theorem acS(s:aj):Lib.hasSuffix s [10]=decide (s.getLast? =some 10):=by
 rw[rR];unfold Lib.hasSuffix;rw[List.isSuffixOf_iff_suffix,dh];constructor
 ·rintro⟨t,rfl⟩;simp
 ·intro h
  have hne:s≠[]:=by rintro rfl;simp at h
  refine⟨s.dropLast,?_⟩;rw[List.getLast?_eq_some_getLast hne] at h;injection h with h;rw[<-h];exact List.dropLast_concat_getLast hne
theorem aEs(s:aj)(h:s.getLast? =some 10):Lib.trimSuffix s [10]=s.dropLast:=by
 unfold Lib.trimSuffix;rw[acS,h];simp[List.dropLast_eq_take]
theorem aEt(c:UInt8)(s:aj):((bW c s).map List.length).sum<=s.length:=by
 induction s with
 |nil=>simp[bW]
 |cons x r ih=>
  simp only[bW];split
  ·simp;omega
  ·cases hs:bW c r with
   |nil=>exact absurd hs (YV c r)
   |cons a b=>rw[hs] at ih;simp at ih⊢;omega
theorem aEu(f:Nat)(r:RS):(r.asks f).1.length<=r.rest.length:=by
 induction f generalizing r with
 |zero=>simp[RS.asks]
 |succ f ih=>
  by_cases hb:r.bad=true
  ·rw[RS.MN _ _ hb];simp
  ·by_cases hh:r.has [32,91]=true
   ·rw[RS.VJ f r (by simpa using hb) hh];have h1:=ih (r.skip [32,91]).mQ;have h2:=RS.anm (r.skip [32,91]);have h3:=RS.ano r _ hh;have h4:([32,91]:aj).length=2:=rfl;simp only[List.length_cons];omega
   ·rw[RS.VH _ _ (by simpa using hh)];simp
theorem aEv(i:Nat)(s:aj):(uA i s).1.length<=s.length:=by
 have h1:=aEu (s.length+1) (yc i s);have h2:(yc i s).rest.length<=(pZ i s).rest.length:=RS.QB (pZ i s) lr;have h3:(pZ i s).rest.length<=s.length:=RS.JO ⟨s,false⟩ (head i);unfold uA;omega
theorem aEw{s:aj}{n:Nat}(h:num s=some n):n<=2147483647:=((yR _ _).1 h).1
theorem mapM_le{ns:List Nat}(h:l.mapM num=some ns):∀n∈ns,n<=2147483647:=by
 induction l generalizing ns with
 |nil=>simp at h;subst h;simp
 |cons a l ih=>
  rw[Gf] at h
  cases ha:num a with
  |none=>rw[ha] at h;simp at h
  |some x=>
   cases hl:l.mapM num with
   |none=>rw[ha,hl] at h;simp at h
   |some y=>
    rw[ha,hl] at h;simp at h;subst h;intro n hn
    rcases cz.1 hn with rfl|hn
    ·exact aEw ha
    ·exact ih hl n hn
theorem anu{s:aj}{l:List Nat}(h:jw s m=some l):∀n∈l,n<=2147483647:=by
 unfold jw at h;split at h
 ·exact mapM_le h
 ·cases h
theorem aEx{s:aj}{q:Qn}(h:jW s=some q):q.ok:=by
 unfold jW at h;simp only[] at h;split at h
 ·cases h
 ·split at h
  ·rename_i a b c i h3 h1;split at h
   ·injection h with h;subst h;have hk:=aiK eh ((bW 32 s).getD 0 []) 4;have ha:=anu h3;have hi:=anu h1;have h4:kindOf eh ((bW 32 s).getD 0 [])<=3:=hk;generalize kindOf eh ((bW 32 s).getD 0 [])=kq at h4⊢;intro n hn;have e0:=ha a ai;have e1:=ha b ai;have e2:=ha c ai;have e3:=hi i ai;simp[Qn.ints] at hn;unfold bY;omega
   ·cases h
  ·cases h
theorem aEy(r:RS):(r.eH).ok:=by
 refine⟨?_,?_⟩
 ·show((jW (r.text [[32,61,32],[93]])).getD oU).ok
  cases h:jW (r.text [[32,61,32],[93]]) with
  |some q=>exact aEx h
  |none=>
   intro n hn;simp[oU,Qn.ints] at hn;subst hn;unfold bY;omega
 ·show bY (r.AD:Int)
  have:=ang (r.fP.text [[47],[93]]);have h:r.AD=dK (r.fP.text [[47],[93]]):=rfl;unfold bY;omega
theorem aEz(f:Nat)(r:RS):∀a∈(r.asks f).1,a.ok:=by
 induction f generalizing r with
 |zero=>simp[RS.asks]
 |succ f ih=>
  by_cases hb:r.bad=true
  ·rw[RS.MN _ _ hb];simp
  ·by_cases hh:r.has [32,91]=true
   ·rw[RS.VJ f r (by simpa using hb) hh];intro a ha
    rcases cz.1 ha with rfl|ha
    ·exact aEy _
    ·exact ih _ a ha
   ·rw[RS.VH _ _ (by simpa using hh)];simp
theorem acT(i:Nat)(s:aj):line i s=if(Dm i s).bad then none else some ((zF i s).getD oT,(uA i s).1):=rfl
theorem anv(i:Nat)(s:aj)(l:List aj):lines i (s::l)=match line i s with
  |none=>none
  |some (e,a)=>match lines (i+1) l with
   |none=>none
   |some (es,more)=>some (e::es,a++more):=rfl
theorem aEA{B' e' k' n n':Nat}{v':Value}{xs':List Value}(h:W.ownsRow B e k v n xs)(h':W.ownsRow B' e' k' v' n' xs')(hne:e≠e'):∀j,v.ownBlock=some j->v'.ownBlock≠some j:=by
 intro j hj xc;obtain⟨_,h0|⟨g,cap,cur,hv,hb,hh,_⟩⟩:=h
 ·rw[h0.1] at hj;cases hj
 ·obtain⟨_,Cw|⟨g',cap',aHl,hv',sq,VT,_⟩⟩:=h'
  ·rw[Cw.1] at xc;cases xc
  ·rw[hv] at hj;rw[hv'] at xc;simp[Value.ownBlock] at hj xc;subst hj xc;rw[hh] at VT;injection VT with VT;injection VT with h1 h2 h3;exact hne h2
theorem anw{n:Nat}(h:W.ownsRow B e k v n xs)(hs:iE W g l)(hne:e≠9):v.ownBlock≠some g:=by
 intro hj;obtain⟨_,h0|⟨g',cap,cur,hv,hb,hh,_⟩⟩:=h
 ·rw[h0.1] at hj;cases hj
 ·rw[hv] at hj;simp[Value.ownBlock] at hj;subst hj;unfold iE at hs;rw[hh] at hs;injection hs with hs;injection hs with h1 h2 h3;exact hne h2
theorem iE.anx{w':World}{row:Option Nat}(h:iE w g l)(hb:w.grownBy w' row)(hne:row≠some g):iE w' g l:=(hb.block g h.lt (fun e=>hne e.symm)).trans h
theorem Two.aEB{W0 X w6:World}{gt:Nat}{ve va u:Value}{evs:List Ev}{l more:List aL}{n:Nat}(h:Two W0 X gt ve va evs l)
  (h3:w6.ownsRow (gt+1) 161 6 u (n+m) (l.flatMap ac++more.flatMap ac)) (hn:n=l.length) (hm:m=more.length) (h4:X.grownBy w6 va.ownBlock):
  Two W0 (w6.setCell ⟨gt,1,none⟩ u) gt ve u evs (l++more):=by
 subst hn hm;have JT:az w6 gt #[ve,va]:=h.dM.grown h4 (fun e=>by have:=(h.oa.lt gt e).1;omega)
 have hoe:w6.ownsRow (gt+1) 41 8 ve evs.length (evs.flatMap ec):=h.oe.kept h4 (by
  cases hv:ve.ownBlock with
  |none=>exact .inl rfl
  |some j=>exact .inr (fun e=>h.ne j hv e.symm))
 refine⟨JT.set 1 _,?_,?_,aEA hoe h3 au,?_⟩
 ·exact hoe.kept (EU w6 ⟨gt,1,none⟩ _) (VS hoe (by show gt<gt+1;omega))
 ·rw[List.length_append,oY];exact h3.kept (EU w6 ⟨gt,1,none⟩ _) (VS h3 (by show gt<gt+1;omega))
 ·refine(h.below.grown h4 (by have:=h.dM.lt;omega) (fun j hj=>by have:=(h.oa.lt j hj).1;omega)).setCell ai _
theorem aEC{cs:Array Value}(hb:az w g cs)(hl:cs.size=2):(loadVar 49 ⟨g,0,none⟩).run Tryz.prog w=.ok (.agg cs) w:=by
 obtain⟨t,ht⟩:=hb;exact run_loadVar_row w g t 49 cs (0,0) _ ht Tryz.underlying49 rfl (by rw[hl];kernel_rfl)
def acU (w:World)(r:Cq)(e:Ending)(w':World):Prop:=(∃k c k2 c2,e=.returned (.tuple #[tv k c k2 c2 r.evs r.CC,I r.code])/\mz w' k c k2 c2 r.evs r.CC)/\aw w w'
theorem anz{k k2:Option Addr}{c c2:Nat}(hb:az W w.heap.size #[.slice k r.evs.length c,.slice k2 r.CC.length c2])(hT:mz W k c k2 c2 r.evs r.CC)(hB:aw w W)
  (h2:tmps.getD 2 undef=.pointer (some ⟨w.heap.size,0,none⟩)) (h3:tmps.getD 3 undef=I r.code):
  bodyPost Tryz.prog Tryz.f18 (acU w r) .ret { tmps:=tmps,defers:=[] } W:=by
 have hr:=aDZ Tryz.results18 tmps W w.heap.size _ (aEC hb rfl) h2;rw[h3] at hr;exact DI hr rfl ⟨⟨k,c,k2,c2,rfl,hT⟩,hB⟩
theorem VU(hr:r.evs=[]/\r.CC=[])(hb:az W w.heap.size #[.slice none 0 0,.slice none 0 0])(hB:aw w W)
  (h2:tmps.getD 2 undef=.pointer (some ⟨w.heap.size,0,none⟩)) (h3:tmps.getD 3 undef=I r.code):
  bodyPost Tryz.prog Tryz.f18 (acU w r) .ret { tmps:=tmps,defers:=[] } W:=
 anz (k:=none) (c:=0) (k2:=none) (c2:=0) (by rw[hr.1,hr.2];exact hb) (by rw[hr.1,hr.2];exact⟨Flat.nil _ _ _ _,Flat.nil _ _ _ _⟩) hB h2 h3
theorem aED(s:aj)(w:World)(hg:Gl w)(hs:s.length<=10000):
  Calls Tryz.prog 18 #[sv s] w (acU w (uB s)):=by
 have HR:=ae (show uB s=if 5000<s.count 10 then .tD else if s=[] then .ok [] [] else if s.getLast? =some 10 then(match lines 0 (bW 10 s.dropLast) with |some (e,a)=> .ok e a|none=> .form) else .form from rfl);have oh:aw w (w.alloc (.cells #[.slice none 0 0,.slice none 0 0] 49)):=(Below.refl _ _).alloc ax _;have fE:=az.new w #[.slice none 0 0,.slice none 0 0] 49;have VV:=ae oh;have Hb0:=ae fE;have HG:=ae hg;have Fq:s.count 10<=s.length:=Ka
 obtain⟨r,hr⟩:∃r,r=uB s:=⟨_,rfl⟩
 rw[<-hr] at HR⊢;clear hr oh fE hg;by_cases hc:5000<s.count 10
 ·have lF:=HR.out;rw[aq hc] at lF;subst lF;have hc':(5000:Int)<((s.count 10:Nat):Int):=ab;have uC:=ae (YT s 10 (w.alloc (.cells #[.slice none 0 0,.slice none 0 0] 49)));clear HR Fq hc;generalize s.count 10=n at uC hc';unfold sv at uC⊢;go_enter Tryz.func18,Tryz.ntmps18
  go_wp2_with (go_at_call 49;refine uC.out.mono ?_;rintro e w1 ⟨rfl,rfl⟩)
  exact VU ⟨rfl,rfl⟩ Hb0.out VV.out rfl rfl
 ·have hc':¬(5000:Int)<((s.count 10:Nat):Int):=ab;have uC:=ae (YT s 10 (w.alloc (.cells #[.slice none 0 0,.slice none 0 0] 49)));have qf:=ae (fun X=>agY s [10] X ab);have eU:=(az.new w #[.slice none 0 0,.slice none 0 0] 49).alloc (.cells #[.slice none 0 0,.slice none 0 0] 49);have bg:aw w ((w.alloc (.cells #[.slice none 0 0,.slice none 0 0] 49)).alloc (.cells #[.slice none 0 0,.slice none 0 0] 49)):=VV.out.alloc (by rw[World.size_alloc];omega) _;have Qb:=ae eU;have mD:=ae bg;clear eU bg;have lF:=HR.out;rw[af hc] at lF;by_cases vN:s=[]
  ·rw[aq vN] at lF;subst lF vN;clear HR Fq hc;generalize([]:aj).count 10=n at uC hc';unfold sv at uC qf⊢;go_enter Tryz.func18,Tryz.ntmps18
   go_wp2_with (first|(go_at_call 49;refine uC.out.mono ?_;rintro e w1 ⟨rfl,rfl⟩)|(go_at_call 50;refine(qf.out _).mono ?_;rintro e w2 ⟨rfl,rfl⟩))
   exact VU ⟨rfl,rfl⟩ Qb.out mD.out rfl rfl
  ·rw[af vN] at lF
   have auu:List.isEmpty s=false:=by cases s with |nil=>exact absurd rfl vN|cons a b=>rfl
   by_cases ju:s.getLast? =some 10
   ·rw[aq ju] at lF
    have QH:Lib.hasSuffix s [10]=true:=by rw[acS];exact ft ju
    have UD:=aEs s ju;rw[QH,UD] at qf;have anB:s.dropLast.length<=10000:=bq;have acV:((bW 10 s.dropLast).map List.length).sum<=10000:=bj (aEt 10 s.dropLast) anB
    have vO:(bW 10 s.dropLast).length<=10001:=by
     rw[Lj];have:=Ka (a:=(10:UInt8)) (l:=s.dropLast);omega
    have Bt:=ae (fun X (hX:Gl X)=>YW s.dropLast 10 X hX ab);have Dr:=ae lF;clear HR Fq hc lF QH UD ju vN;generalize s.dropLast=body at Bt qf anB acV vO Dr;generalize bW 10 body=ws at Bt acV vO Dr;generalize s.count 10=n at uC hc';unfold sv at uC qf Bt⊢;go_enter Tryz.func18,Tryz.ntmps18
    go_wp2_with (first|(go_at_call 49;refine uC.out.mono ?_;rintro e w1 ⟨rfl,rfl⟩)|(go_at_call 50;refine(qf.out _).mono ?_;rintro e w2 ⟨rfl,rfl⟩)|(go_at_call 51;refine(Bt.out _ ((HG.out.alloc _).alloc _)).mono ?_;rintro e X0 ⟨rfl,Aa,VW,hzX⟩))
    have eZ:(w.alloc (.cells #[.slice none 0 0,.slice none 0 0] 49)).heap.size=w.heap.size+1:=World.size_alloc _ _
    have cL:((w.alloc (.cells #[.slice none 0 0,.slice none 0 0] 49)).alloc (.cells #[.slice none 0 0,.slice none 0 0] 49)).heap.size=w.heap.size+1+1:=by rw[World.size_alloc,eZ]
    have htw:Two (w.alloc (.cells #[.slice none 0 0,.slice none 0 0] 49)) X0 (w.heap.size+1) (.slice none 0 0) (.slice none 0 0) [] []:=by
     refine⟨?_,ko _ _ _ _,ko _ _ _ _,fun j hj=>by simp[Value.ownBlock] at hj,?_⟩
     ·have:=(az.new (w.alloc (.cells #[.slice none 0 0,.slice none 0 0] 49)) #[.slice none 0 0,.slice none 0 0] 49)
      rw[eZ] at this;exact this.kept VW ab
     ·exact((Below.refl _ _).alloc ab _).trans (VW.mono ab)
    rw[cL] at Aa;have HGW:=ae (HG.out.alloc (.cells #[.slice none 0 0,.slice none 0 0] 49));have uD:=ae htw;have QI:=ae Aa;have aEE:=VW.size;rw[cL] at aEE hzX;clear htw Aa VW cL qf uC Bt hc' Qb mD
    obtain⟨W0,EJ⟩:∃W0,W0=w.alloc (.cells #[.slice none 0 0,.slice none 0 0] 49):=⟨_,rfl⟩
    rw[<-EJ] at Hb0 VV HGW uD eZ;clear EJ;go_loopw [32] (fun i wr=>∃(k:Nat) (ke:Option Addr) (ce:Nat) (ka:Option Addr) (ca:Nat) (E:List Ev) (A:List aL),i=.int .i64 k/\k<=ws.length/\E.length=k/\Hid (Two W0 wr (w.heap.size+1) (.slice ke k ce) (.slice ka A.length ca) E A)/\Hid (iE wr (w.heap.size+1+1) ws)/\Hid (lines 0 ws=match lines k (ws.drop k) with |none=>none|some (es,more)=>some (E++es,A++more))/\Hid (A.length+((ws.drop k).map List.length).sum<=10000)/\Hid (∀a∈A,a.ok)) (fun i _=>ws.length-(intOf i).toNat)
    case atStart=>exact⟨0,none,0,none,0,[],[],rfl,ab,rfl,uD,QI,ae (by rw[uK];cases lines 0 ws with |none=>rfl|some x=>rfl),ae (by simpa using acV),ae ai⟩
    case round=>
     obtain⟨k,ke,ce,ka,ca,E,A,rfl,hk,hE,uD,QI,FC,Hsm,xG⟩:=hrel;have ES:=uD.out.dM.lt;have JL:az wr w.heap.size #[.slice none 0 0,.slice none 0 0]:=Hb0.out.kept uD.out.below ab;have QJ:Gl wr:=HGW.out.below (show Below (W0.heap.size) W0 wr by rw[eZ];exact uD.out.below);have nI:aw w wr:=VV.out.trans (uD.out.below.mono ab);by_cases hlt:k<ws.length
     ·have hcell:wr.cell? ⟨w.heap.size+1+1,k,none⟩=some (sv ws[k]):=iE.cell QI.out (by simp[hlt]);have kU:=List.drop_eq_getElem_cons hlt;have hsm:=Hsm.out;rw[kU] at hsm;simp only[dF,Gg] at hsm;have AM:=FC.out;rw[kU,anv,acT] at AM;have uh:=aEv k ws[k];have hoA:=aEz (ws[k].length+1) (yc k ws[k]);have HoA:=ae (show∀a∈(uA k ws[k]).1,a.ok from hoA);have hlc:=aEn k ws[k] wr.heap.size (wr.alloc (.cells #[sv ws[k],.bool false] 117)) (az.new _ _ _) (QJ.alloc _) (by have:=QJ.low;omega) ab ab;have MP:=ae hlc;have FL:=ae AM;have acW:=ae hsm;have HGr:=ae QJ;have Ds:=ae nI;have Dp:=ae JL;clear kU hsm AM hlc hoA JL QJ nI;generalize ws[k]=text at hcell MP FL acW HoA uh;generalize(zF k text).getD oT=ev at MP FL;generalize(uA k text).1=la at MP FL HoA uh;generalize Dm k text=le at MP FL;unfold sv at hcell MP
      go_upto_region 14 with(go_at_call 52;refine MP.out.mono ?_;rintro e w1 ⟨va,rfl,cq,dx,k1,g1⟩;obtain⟨qa,qc,rfl,_⟩:=cq.open;unfold iH)
      have hpa:(wr.alloc (.cells #[.string ⟨text.toArray⟩,.bool false] 117)).heap.size=wr.heap.size+1:=World.size_alloc _ _;have ey:=g1.size
      have anC:∀x,qa=some x->wr.heap.size+1<=x.block:=fun x hx=>by
       have:=dx x.block (by rw[hx];rfl);omega
      have QK:aw wr w1:=((Below.refl _ _).alloc ax _).grown g1 ab (fun j hj=>by have:=dX hj;omega);have tf:=az.new w1 (iH ev) 41;have VX:=(uD.out.later QK).later ((Below.refl w1.heap.size w1).alloc ax (.cells (iH ev) 41));have VY:gD (w1.alloc (.cells (iH ev) 41)) wr.heap.size le:=gD.below k1 ((Below.refl _ _).alloc ax _)
      have VZ:iE (w1.alloc (.cells (iH ev) 41)) (w.heap.size+1+1) ws:=(iE.below (QI.out.below QK) ((Below.refl _ _).alloc ax _))
      have Jy:kS (w1.alloc (.cells (iH ev) 41)) (.slice qa la.length qc) la:=cq.kept ((Below.refl _ _).alloc ax _) ax;have Wa:az (w1.alloc (.cells (iH ev) 41)) w.heap.size #[.slice none 0 0,.slice none 0 0]:=(Dp.out.kept QK Dp.out.lt).alloc _;have aC:aw w (w1.alloc (.cells (iH ev) 41)):=(Ds.out.trans (QK.mono Ds.out.size)).alloc (by have:=Ds.out.size;omega) _;have aHm:wr.heap.size<w1.heap.size:=ab;have Wb:(w1.alloc (.cells (iH ev) 41)).heap.size=w1.heap.size+1:=World.size_alloc _ _;unfold iH at tf VX VY VZ Jy Wa aC Wb
      obtain⟨V,hV⟩:∃V,V=w1.alloc (.cells #[I ev.kind,I ev.node,I ev.arg,I ev.msg.node,I ev.msg.handler,I ev.msg.count,I ev.msg.index,I ev.msg.copy] 41):=⟨_,rfl⟩
      rw[<-hV] at tf VX VY VZ Jy Wa aC Wb⊢;have Hzv:=ae Wb;clear hV cq dx k1 g1 hpa ey QK Wb;have cb:V.cell? ⟨wr.heap.size,1,none⟩=some (.bool le.bad):=az.cell VY 1;have QL:=ae VX;have aEF:=ae VZ;have aEG:=ae Jy;have Bq:=ae Wa;have kH:=ae aC;have FM:=ae tf;clear VX VZ Jy Wa aC VY tf
      cases rG:le.bad with
      |true=>
       rw[rG] at cb FL;have HF:=ae (show r=.form by rw[Dr.out,FL.out];rfl);have z0:=Bq.out.cell 0;have z1:=Bq.out.cell 1;have f0:=Bq.out.frozen 0;have f1:=Bq.out.frozen 1;go_wp2_with fail;have h1:=(Bq.out.set 0 (.slice none 0 0)).set 1 (.slice none 0 0);have hg:=(lS V ⟨w.heap.size,0,none⟩ (.slice none 0 0)).trans (lS _ ⟨w.heap.size,1,none⟩ (.slice none 0 0));have dx:=HF.out;subst dx;exact VU ⟨rfl,rfl⟩ h1 (kH.out.grown hg kH.out.size (fun j hj=>by have h:=dX hj;change w.heap.size=j at h;omega)) rfl rfl
      |false=>
       rw[rG] at cb FL
       have HL3:=ae (show lines 0 ws=match lines (k+1) (ws.drop (k+1)) with |none=>none|some (es,more)=>some ((E++[ev])++es,(A++la)++more) by
        rw[FL.out];simp only[zJ,pd]
        cases lines (k+1) (ws.drop (k+1)) with
        |none=>rfl
        |some x=>simp)
       have t0:V.cell? ⟨w.heap.size+1,0,none⟩=some (.slice ke k ce):=QL.out.dM.cell 0;have m0:=FM.out.cell 0;have m1:=FM.out.cell 1;have m2:=FM.out.cell 2;have m3:=FM.out.cell 3;have m4:=FM.out.cell 4;have m5:=FM.out.cell 5;have m6:=FM.out.cell 6;have m7:=FM.out.cell 7;have Dt:=ae hE;clear hE
       go_upto_region 17 with(at_builtin;go_must (refine tB rfl _ _ 46 rfl 41 _ 8 64 Tryz.underlying46 adZ rfl ab ab (w.heap.size+1+1) (.slice ke k ce) k (E.flatMap ec) rfl (by have h:=QL.out.oe;rw[Dt.out] at h;exact h.alloc _) V.heap.size 1 1 #[I ev.kind,I ev.node,I ev.arg,I ev.msg.node,I ev.msg.handler,I ev.msg.count,I ev.msg.index,I ev.msg.copy] 41 rfl (dV _ _) rfl rfl ab ab (by rw[World.size_alloc];have:=Hzv.out;omega) ?_);intro g6 ry w6 fQ gE je EX uk rq;have JT:=(QL.out.later ((Below.refl _ _).alloc ax (.cells #[I ev.kind,I ev.node,I ev.arg,I ev.msg.node,I ev.msg.handler,I ev.msg.count,I ev.msg.index,I ev.msg.copy] 41))).dM.grown uk (fun e=>by have:=(QL.out.oe.lt _ e).1;omega);have x0:=JT.cell 0;have y0:=JT.frozen 0)
       have acX:=QL.out.later ((Below.refl _ _).alloc ax (.cells #[I ev.kind,I ev.node,I ev.arg,I ev.msg.node,I ev.msg.handler,I ev.msg.count,I ev.msg.index,I ev.msg.copy] 41));have acY:=acX.aEr ev je (by simpa [ec,iv,Ev.ints] using EX) Dt.out.symm uk;have hVA:(V.alloc (.cells #[I ev.kind,I ev.node,I ev.arg,I ev.msg.node,I ev.msg.handler,I ev.msg.count,I ev.msg.index,I ev.msg.copy] 41)).heap.size=V.heap.size+1:=World.size_alloc _ _;have acZ:=aEF.out.below ((Below.refl V.heap.size V).alloc ax (.cells #[I ev.kind,I ev.node,I ev.arg,I ev.msg.node,I ev.msg.handler,I ev.msg.count,I ev.msg.index,I ev.msg.copy] 41));have anD:=acZ.anx uk (anw acX.oe acZ au);have ada:=anD.grown (lS w6 ⟨w.heap.size+1,0,none⟩ (.slice (some ⟨g6,0,none⟩) (k+1) ry)) (by show w.heap.size+1+1≠w.heap.size+1;omega);have anE:=aEG.out.kept ((Below.refl V.heap.size V).alloc ax (.cells #[I ev.kind,I ev.node,I ev.arg,I ev.msg.node,I ev.msg.handler,I ev.msg.count,I ev.msg.index,I ev.msg.copy] 41)) ax
       have anF:kS w6 (.slice qa la.length qc) la:=Flat.aag anE uk (fun x hx bl=>by
        have h1:=anC x hx;have h2:=(uD.out.oe.lt _ bl).2
        omega)
       have adb:kS (w6.setCell ⟨w.heap.size+1,0,none⟩ (.slice (some ⟨g6,0,none⟩) (k+1) ry)) (.slice qa la.length qc) la:=Flat.aag anF (lS w6 ⟨w.heap.size+1,0,none⟩ (.slice (some ⟨g6,0,none⟩) (k+1) ry)) (fun x hx bl=>by
        have h1:=anC x hx;have h2:=dX bl;change w.heap.size+1=x.block at h2
        omega)
       have h6z:=uk.size;have hYz:(w6.setCell ⟨w.heap.size+1,0,none⟩ (.slice (some ⟨g6,0,none⟩) (k+1) ry)).heap.size=w6.heap.size:=ai
       obtain⟨Y,hY⟩:∃Y,Y=w6.setCell ⟨w.heap.size+1,0,none⟩ (.slice (some ⟨g6,0,none⟩) (k+1) ry):=⟨_,rfl⟩
       rw[<-hY] at acY ada adb hYz⊢
       have hYs:w.heap.size+1+1<=Y.heap.size:=by have:=Hzv.out;omega
       have MQ:=ae acY;have anG:=ae ada;have aEH:=ae adb;clear hY acY ada adb hYz anF anE anD acZ acX hVA h6z EX uk rq JT x0 y0 t0 m0 m1 m2 m3 m4 m5 m6 m7 je;have t1:Y.cell? ⟨w.heap.size+1,1,none⟩=some (.slice ka A.length ca):=MQ.out.dM.cell 1
       have aHn:A.length+la.length<=10000:=by have:=acW.out;omega
       go_wp2_with (at_builtin;go_must (refine aeb rfl _ _ 47 rfl 161 _ 6 48 Tryz.underlying47 WH rfl ab ab (w.heap.size+1+1) (.slice ka A.length ca) A.length (A.flatMap ac) rfl MQ.out.oa (.slice qa la.length qc) rfl la.length (la.flatMap ac) aEH.out (by intro u hu;obtain⟨x,_,hx⟩:=BH.1 hu;simp[ac,iv,aL.ints] at hx;rcases hx with rfl|rfl|rfl|rfl|rfl|rfl<;>rfl) ab hYs ?_);intro u w7 ho7 ade Va;have Jz:=MQ.out.dM.grown ade (fun e=>by have:=(MQ.out.oa.lt _ e).1;omega);have x1:=Jz.cell 1;have y1:=Jz.frozen 1;obtain⟨ub,uc,rfl,_⟩:=(Flat.eu ho7).open)
       go_roundw
       case rel=>
        refine⟨k+1,some ⟨g6,0,none⟩,ry,ub,uc,E++[ev],A++la,by go_num,ab,by simp[Dt.out],?_,?_,HL3,?_,?_⟩
        ·rw[List.length_append];exact ae (MQ.out.aEB ho7 rfl rfl ade)
        ·exact ae ((anG.out.anx ade (anw MQ.out.oa anG.out au)).grown (lS w7 ⟨w.heap.size+1,1,none⟩ (.slice ub (A.length+la.length) uc)) (by show w.heap.size+1+1≠w.heap.size+1;omega))
        ·have:=acW.out;exact ae (by rw[List.length_append];omega)
        ·exact ae (fun x hx=>(fL.1 hx).elim (xG.out x) (HoA.out x))
       case measure=>simp[intOf];omega
     ·obtain rfl:k=ws.length:=ab;have Dt:=ae hE;clear hE;have mq:=Dr.out;rw[FC.out,FX ax] at mq;simp only[lines,rS] at mq
      have Qj:A.length<=10000:=by have:=Hsm.out;omega
      have adf:oG wr (.slice ke E.length ce) E/\kS wr (.slice ka A.length ca) A:=by
       refine⟨?_,Flat.eu uD.out.oa⟩;have h:=Flat.eu uD.out.oe;rw[<-Dt.out] at h;exact h
      have Hnf:=ae (aiB E A (.slice ke E.length ce) (.slice ka A.length ca) wr adf.1 adf.2 xG.out (by have:=Dt.out;omega) ab);have hHE:=Dt.out;rw[hHE] at Hnf;have t0:wr.cell? ⟨w.heap.size+1,0,none⟩=some (.slice ke ws.length ce):=uD.out.dM.cell 0;have t1:wr.cell? ⟨w.heap.size+1,1,none⟩=some (.slice ka A.length ca):=uD.out.dM.cell 1;have Dp:=ae JL;have Ds:=ae nI;have qd:=ae mq;clear JL nI QJ mq adf hHE uD FC Dr Hsm QI
      go_wp2_with (go_at_call 53;refine Hnf.out.mono ?_;rintro e w2 ⟨ue,ua,rfl,oe,oa,eU⟩;obtain⟨kx,cx,kx2,cx2,rfl,rfl,hT⟩:=mz.of (by rw[Dt.out];exact oe) oa;have h2:=Dp.out.kept eU Dp.out.lt;have z0:=h2.cell 0;have z1:=h2.cell 1;have f0:=h2.frozen 0;have f1:=h2.frozen 1)
      have hg:=(lS w2 ⟨w.heap.size,0,none⟩ (.slice kx E.length cx)).trans (lS _ ⟨w.heap.size,1,none⟩ (.slice kx2 (lP A).length cx2));have fc:=(h2.set 0 (.slice kx E.length cx)).set 1 (.slice kx2 (lP A).length cx2);have hr:=qd.out;subst hr;have hBf:aw w w2:=Ds.out.trans (eU.mono Ds.out.size);have hlw:w.heap.size<wr.heap.size:=ab;have oe1:=Flat.eu (rL oe hg hlw);rw[<-Dt.out] at oe1;have oa1:=Flat.eu (rL oa hg hlw);exact anz (r:=.ok E A) fc ⟨oe1,oa1⟩ (hBf.grown hg hBf.size (fun j hj=>by have h:=dX hj;change w.heap.size=j at h;omega)) rfl rfl
   ·rw[af ju] at lF;subst lF
    have QH:Lib.hasSuffix s [10]=false:=by rw[acS];exact jk ju
    rw[QH] at qf;clear HR Fq hc QH ju vN;generalize Lib.trimSuffix s [10]=body at qf;generalize s.count 10=n at uC hc';unfold sv at uC qf⊢;go_enter Tryz.func18,Tryz.ntmps18
    go_wp2_with (first|(go_at_call 49;refine uC.out.mono ?_;rintro e w1 ⟨rfl,rfl⟩)|(go_at_call 50;refine(qf.out _).mono ?_;rintro e w2 ⟨rfl,rfl⟩))
    exact VU ⟨rfl,rfl⟩ Qb.out mD.out rfl rfl
end
section
open Go.RowKit
def jA (s:aj):Int:=match num s with
 |some n=>n
 |none=> -1
theorem anH {s:aj}{n:Nat}(h:num s=some n):jA s=n:=by unfold jA;rw[h]
theorem anI {s:aj}(h:num s=none):jA s= -1:=by unfold jA;rw[h]
end
section
open Go.RowKit
def rM (c:UInt8)(s:aj):List Int:=if s=[] then [] else(bW c s).map jA
theorem adg:jA []= -1:=anI aDR
end
section
open Go.RowKit
def qg (s:aj):Ev×Bool:=
 let k:=kindOf dL (s.take (cutAt [[32]] s))
 let r:=(s.drop (cutAt [[32]] s)).drop 1
 let n:=jA (r.take (cutAt [[32]] r))
 let m:=(r.drop (cutAt [[32]] r)).drop 1
 if k=1\/k=2\/k=4 then(⟨k,n,jA m,⟨0,0,0,0,0⟩⟩,ei ⟨k,n,jA m,⟨0,0,0,0,0⟩⟩==s)
 else if k=7 then(⟨7,n,0,⟨0,0,0,0,0⟩⟩,ei ⟨7,n,0,⟨0,0,0,0,0⟩⟩==s)
 else match rM 46 m with
  |[a,b,c,d,x]=>(⟨k,n,0,⟨a,b,c,d,x⟩⟩,decide (0<k) && (ei ⟨k,n,0,⟨a,b,c,d,x⟩⟩==s))
  |_=>(⟨k,n,0,⟨0,0,0,0,0⟩⟩,false)
end
section
open Go.RowKit
def th (s:aj):Qn×Bool:=
 let k:=kindOf eh (s.take (cutAt [[32]] s))
 let r:=(s.drop (cutAt [[32]] s)).drop 1
 let l:=rM 46 (r.take (cutAt [[32]] r))
 let m:=(r.drop (cutAt [[32]] r)).drop 1
 match l with
 |[a,b,c]=>if k=0 then(⟨0,0,0,0,0⟩,false) else(⟨a,b,c,k,jA m⟩,gQ ⟨a,b,c,k,jA m⟩==s)
 |_=>(⟨0,0,0,k,0⟩,false)
end
section
open Go.RowKit
def Bu (q0:aj):aL×Bool:=
 let one:=q0.take (cutAt [[93]] q0)
 let qs:=one.take (cutAt [[32,61,32]] one)
 let an:=(one.drop (cutAt [[32,61,32]] one)).drop 3
 let n:=jA (an.take (cutAt [[47]] an))
 let most:=jA ((an.drop (cutAt [[47]] an)).drop 1)
 (⟨(th qs).1,n⟩,(th qs).2 && decide (0<=n) && decide (n<most))
def wC:Nat->Bool->aj->List aL->Option (Bool×aj×List aL)
 |0,_,_,_=>none
 |f+1,ok,rest,out=>
  if ok=true/\Lib.index rest [32,91]=0 then
   if(rest.drop 2).drop (cutAt [[93]] (rest.drop 2))=[] then none
   else wC f (Bu (rest.drop 2)).2 (((rest.drop 2).drop (cutAt [[93]] (rest.drop 2))).drop 1) (out++[(Bu (rest.drop 2)).1])
  else some (ok,rest,out)
def Wc (i:Nat)(l:List Int)(k:Nat):Bool:=decide (∀j<k,0<=l.getD j 0/\l.getD j 0<(i:Int)/\(0<j->l.getD (j-1) 0<l.getD j 0))
def FN (i:Nat)(ok:Bool)(rest:aj):Bool:=
 let r1:=if Lib.index rest [32,42]=0 then rest.drop 2 else rest
 if Lib.index r1 [32,97,102,116,101,114,32]=0 then
  (ok && Wc i (rM 44 (r1.drop 7)) (rM 44 (r1.drop 7)).length) && (decide (0<(rM 44 (r1.drop 7)).length)||(r1==[]))
 else ok && (r1==[])
def adh (i:Nat)(t:aj):Option (Ev×List aL):=
 match wC (t.length+1) (qg (t.take (cutAt lr t))).2 (t.drop (cutAt lr t)) [] with
 |none=>none
 |some (ok,rest,out)=>if FN i ok rest=true then some ((qg (t.take (cutAt lr t))).1,out) else none
def adi (i:Nat)(s:aj):Option (Ev×List aL):=
 if Lib.hasPrefix s (head i)=true then adh i (s.drop (head i).length) else none
end
section
open Go.RowKit
variable {a p:aj} {c:UInt8}
theorem adj (c:UInt8)(b:aj):∀(p a:aj),c∉p->p.isPrefixOf (a++c::b)=p.isPrefixOf a
 |[],_,_=>by simp[List.isPrefixOf]
 |q::p,[],h=>by
  have h1:(q==c)=false:=mE.2 (fun e=>h (by rw[e];simp));simp[List.isPrefixOf,h1]
 |q::p,x::a,h=>by
  have ih:=adj c b p a (fun e=>h (jC _ e));simp only[List.cons_append,List.isPrefixOf,ih]
theorem adk(hc:c∉p)(a b:aj){j:Nat}(hj:j<=a.length):Lib.occAt (a++c::b) p j=Lib.occAt a p j:=by
 unfold Lib.occAt;rw[BA hj];exact adj c b p _ hc
theorem aEI(hc:c∉p)(_hp:p≠[])(a b:aj):
  (∃i:Nat,Lib.index a p=i/\Lib.index (a++c::b) p=i/\i+p.length<=a.length)\/(Lib.index a p= -1/\(Lib.index (a++c::b) p= -1\/∃i:Nat,Lib.index (a++c::b) p=i/\a.length<i)):=by
 rcases Lib.index_spec a p with⟨h1,h2⟩|⟨i,h1,h2,h3,h4⟩
 ·refine .inr ⟨h1,?_⟩
  rcases Lib.index_spec (a++c::b) p with⟨g1,_⟩|⟨i,g1,g2,g3,g4⟩
  ·exact .inl g1
  ·refine .inr ⟨i,g1,?_⟩;by_cases hi:i<=a.length
   ·rw[adk hc a b hi,h2 i hi] at g3;cases g3
   ·omega
 ·have hr:=Lib.index_room a p (by rw[h1];omega);rw[h1] at hr;refine .inl ⟨i,h1,Lib.index_hit (fun j hj=> ?_) bq (by rw[adk hc a b h2];exact h3),ab⟩;rw[adk hc a b ab];exact h4 j hj
theorem anJ(h:c∉a)(b:aj):Lib.index (a++c::b) [c]=a.length:=by
 induction a with
 |nil=>exact aha c b
 |cons x a ih=>
  rw[List.cons_append,YU x c _ (fun e=>h (by rw[e];simp)),ih (fun e=>h (jC _ e))];have:((a.length:Int)== -1)=false:=mE.2 ab;rw[this];simp
theorem aEJ(h:c∉a):Lib.index a [c]= -1:=by
 induction a with
 |nil=>rfl
 |cons x a ih=>
  rw[YU x c _ (fun e=>h (by rw[e];simp)),ih (fun e=>h (jC _ e))];rfl
theorem QN(p s:aj):cutAt [p] s=if 0<=Lib.index s p then min s.length (Lib.index s p).toNat else s.length:=rfl
theorem aEK(p q s:aj):cutAt [p,q] s=if 0<=Lib.index s q then min (cutAt [p] s) (Lib.index s q).toNat else cutAt [p] s:=rfl
theorem wD(h:c∉a)(b:aj):cutAt [[c]] (a++c::b)=a.length:=by
 rw[QN,anJ h,aq ab];simp
theorem anK(h:c∉a):cutAt [[c]] a=a.length:=by
 rw[QN,aEJ h,af ab]
theorem anL(hc:c∉p)(hp:p≠[])(ha:c∉a)(b:aj):cutAt [p,[c]] (a++c::b)=cutAt [p] a:=by
 rw[aEK,anJ ha,aq ab,QN,QN];have hl:(a++c::b).length=a.length+1+b.length:=bq
 rcases aEI hc hp a b with⟨i,h1,h2,h3⟩|⟨h1,h2|⟨i,h2,h3⟩⟩
 ·rw[h1,h2,aq ab,aq ab,hl];simp;omega
 ·rw[h1,h2,af ab,af ab,hl];simp;omega
 ·rw[h1,h2,aq ab,af ab,hl];simp;omega
end
section
open Go.RowKit
theorem Du (n:Nat)(h:n<=2147483647):jA (Lib.decDigits n)=n:=anH ((yR _ _).2 ⟨h,rfl⟩)
theorem anM {c:UInt8}{l:List aj}(h:l≠[])(ha:∀a∈l,a≠[]):bI c l≠[]:=by
 cases l with
 |nil=>exact absurd rfl h
 |cons a l=>
  cases l with
  |nil=>exact ha a ai
  |cons b l=>rw[uq c a ai];simp
theorem anN (l:List Nat)(h:l≠[])(hl:∀n∈l,n<=2147483647):rM 46 (bI 46 (l.map Lib.decDigits))=l.map fun n:Nat=>(n:Int):=by
 have hne:l.map Lib.decDigits≠[]:=fun e=>h (List.map_eq_nil_iff.1 e)
 unfold rM
 rw[af (anM hne (fun a ha=>by obtain⟨n,_,rfl⟩:=dm.1 ha;exact Li n)),CX 46 _ hne (fun a ha=>by
   obtain⟨n,_,rfl⟩:=dm.1 ha
   exact rF n au),List.map_map]
 refine Kb (fun n hn=> ?_);exact Du n (hl n hn)
end
end Go.Proofs.YtkanpepkdcmpmaaGreatDoor
