import Derived.Test.YtngblilamkkikaaGreatDoorW32
import Derived.Lib.ParseIntBMem
import Derived.Lib.AtoiErrMem
set_option maxHeartbeats 40000000
set_option maxRecDepth 100000
set_option linter.all false
namespace Go.Proofs.YtngblilamkkikaaGreatDoor
section
open Go.RowKit
def fF (w:World)(p:Nat)(r:RS):Prop:=ax w p #[sv r.rest,.bool r.bad]
theorem xG (r:RS)(c:Bool)(p:Nat)(w:World)(h:fF w p r):
  Calls Tryz.prog 48 #[.pointer (some ⟨p,0,none⟩),.bool c] w fun e w'=>e=.returned (.tuple #[])/\fF w' p (r.must c)/\w.grownBy w' (some p):=by
 obtain⟨rest,bad⟩:=r;have c1:w.cell? ⟨p,1,none⟩=some (.bool bad):=ax.cell h 1;have f1:=ax.frozen h 1;have hs:=ae (ax.set h 1 (.bool (bad|| !c)));clear h
 cases bad with
 |true=>
  go_enter Tryz.func48,Tryz.ntmps48;go_wp2;refine bodyPost_end (results_none rfl _ _ _) rfl ?_;exact⟨rfl,hs.out,fZ w ⟨p,1,none⟩ _⟩
 |false=>
  go_enter Tryz.func48,Tryz.ntmps48;go_wp2;refine bodyPost_end (results_none rfl _ _ _) rfl ?_;exact⟨rfl,hs.out,fZ w ⟨p,1,none⟩ _⟩
theorem GC (r:RS)(s:aw)(p:Nat)(w:World)(h:fF w p r):
  Calls Tryz.prog 49 #[.pointer (some ⟨p,0,none⟩),sv s] w fun e w'=>e=.returned (.bool (r.has s))/\fF w' p (r.skip s)/\w.grownBy w' (some p):=by
 obtain⟨rest,bad⟩:=r;have c0:w.cell? ⟨p,0,none⟩=some (sv rest):=ax.cell h 0;have f0:=ax.frozen h 0;have hs:=ae (ax.set h 0 (sv (Lib.trimPrefix rest s)));clear h;have hc:=ae (awc rest s w);generalize sv rest=vr at c0 hc;unfold sv at*;go_enter Tryz.func49,Tryz.ntmps49
 go_wp2_with (go_at_call 97;refine hc.out.mono ?_;rintro e w1 ⟨rfl,rfl⟩)
 go_ret;exact⟨rfl,hs.out,fZ w1 ⟨p,0,none⟩ _⟩
theorem aac (cT:List aw)(s:aw):cutAt cT s<=s.length:=by
 unfold cutAt
 have key:∀(l:List aw) (a:Nat),a<=s.length->l.foldl (fun a p=>if 0<=Lib.index s p then min a (Lib.index s p).toNat else a) a<=s.length:=by
  intro l
  induction l with
  |nil=>intro a h;exact h
  |cons p l ih=>
   intro a h;simp only[yi];split
   ·exact ih _ ab
   ·exact ih _ h
 exact key cT _ aA
def cutFrom (s:aw)(a:Nat)(l:List aw):Nat:=l.foldl (fun a p=>if 0<=Lib.index s p then min a (Lib.index s p).toNat else a) a
theorem axY (s:aw)(a:Nat)(l:List aw)(p:aw):cutFrom s a (l++[p])=if 0<=Lib.index s p then min (cutFrom s a l) (Lib.index s p).toNat else cutFrom s a l:=by
 unfold cutFrom;rw[yg];rfl
theorem Ky (r:RS)(cT:List aw)(p g:Nat)(w:World)(h:fF w p r)(hg:Gl w)(hl:r.rest.length<=4000000000)(sE:du w g cT)(hn:cT.length<=100)(_hp:8<=p):
  Calls Tryz.prog 51 #[.pointer (some ⟨p,0,none⟩),.slice (some ⟨g,0,none⟩) cT.length cT.length] w fun e w'=>e=.returned (sv (r.text cT))/\fF w' p (r.until cT)/\w.grownBy w' (some p):=by
 obtain⟨rest,bad⟩:=r;have c0:w.cell? ⟨p,0,none⟩=some (sv rest):=ax.cell h 0;have f0:=ax.frozen h 0;have hl:rest.length<=4000000000:=hl;have hs:=ae (ax.set h 0 (sv (rest.drop (cutAt cT rest))));have hcut:=ae (show cutAt cT rest=cutFrom rest rest.length cT from rfl);have hle:=aac cT rest;have aW:=ae sE
 have aiB:∀q:aw,Calls Tryz.prog 45 #[sv rest,sv q] w fun e w'=>e=.returned (I (Lib.index rest q))/\w'=w:=fun q=>awe rest q w hg hl
 have axZ:=ae aiB;clear h aiB sE hg;generalize hcv:cutAt cT rest=cv at*;unfold sv at*;go_enter Tryz.func51,Tryz.ntmps51;go_wp2_with fail;go_loop [5,17] (fun a i=>∃(k:Nat),k<=cT.length/\a=I (cutFrom rest rest.length (cT.take k))/\i=.int .i64 k) (fun _ i=>cT.length-(intOf i).toNat)
 case atStart=>exact⟨0,ab,by simp[cutFrom],rfl⟩
 case round=>
  obtain⟨k,hk,rfl,rfl⟩:=hrel;by_cases hlt:k<cT.length
  ·have hcell:w.cell? ⟨g,k,none⟩=some (sv cT[k]):=aW.out.cell (by simp[hlt])
   have hst:cutFrom rest rest.length (cT.take (k+1))=if 0<=Lib.index rest cT[k] then min (cutFrom rest rest.length (cT.take k)) (Lib.index rest cT[k]).toNat else cutFrom rest rest.length (cT.take k):=by
    rw[List.take_succ_eq_append_getElem hlt];exact axY _ _ _ _
   have hst:=ae hst;have hi:=axZ.out cT[k];have Hi:=ae hi;clear hi;generalize cT[k]=q at hcell hst Hi;unfold sv at hcell;generalize cutFrom rest rest.length (cT.take k)=a at hst⊢;by_cases h0:0<=Lib.index rest q
   ·have Jc:=ae (show cutFrom rest rest.length (cT.take (k+1))=min a (Lib.index rest q).toNat by rw[hst.out,aj h0])
    obtain⟨ix,iR⟩:∃ix:Nat,Lib.index rest q=ix:=⟨(Lib.index rest q).toNat,ab⟩
    rw[iR] at Hi Jc h0;clear hst iR
    go_wp2_with (go_at_call 45;refine Hi.out.mono ?_;rintro e w1 ⟨rfl,rfl⟩)
    go_round
    case rel=>exact⟨k+1,ab,by rw[Jc.out];go_num,by go_num⟩
    case measure=>simp[intOf];omega
   ·have Jc:=ae (show cutFrom rest rest.length (cT.take (k+1))=a by rw[hst.out,af h0])
    go_wp2_with (go_at_call 45;refine Hi.out.mono ?_;rintro e w1 ⟨rfl,rfl⟩)
    go_round
    case rel=>exact⟨k+1,ab,by rw[Jc.out],by go_num⟩
    case measure=>simp[intOf];omega
  ·obtain rfl:k=cT.length:=ab;rw[fx] at*;rw[<-hcut.out] at*;go_wp2_with fail;go_ret;rw[avH];exact⟨by simp only[avG];rw[<-hcv];rfl,by unfold fF RS.until;rw[hcv];exact hs.out,fZ w ⟨p,0,none⟩ _⟩
end
section
open Go.RowKit
variable {acc:Nat} {c:UInt8} {r:aw}
theorem aiC(hd:48<=c.toNat/\c.toNat<=57)(ha:acc<=2147483647):
  Lib.parseUintM 2147483647 acc (c::r)=if 2147483647<acc*10+(c.toNat-48) then .range else Lib.parseUintM 2147483647 (acc*10+(c.toNat-48)) r:=by
 simp only[Lib.parseUintM];rw[aj hd,af ab]
theorem aya(hd:¬(48<=c.toNat/\c.toNat<=57)):Lib.parseUintM 2147483647 acc (c::r)=.syntax:=by
 simp only[Lib.parseUintM];rw[af hd]
theorem ayb(s:aw)(hne:s≠[])(hs:s.length<=4000000000)(w:World):
  Calls Tryz.prog 147 #[sv s,I 10,I 31] w fun e w'=>e=.returned (Lib.uintTupleM 298 2147483647 (Lib.parseUintM 2147483647 0 s))/\ay w w':=by
 obtain⟨t,ht⟩:∃t:ByteArray,t=⟨s.toArray⟩:=⟨_,rfl⟩
 have sC:t.data.toList=s:=by rw[ht]
 have hsz:s.length=t.size:=by rw[<-sC,Lib.size_eq]
 have ayc:t.toList.isEmpty=false:=by
  rw[<-decide_eq_emptyBytes];exact ja (fun h=>hne (by rw[<-sC,h];rfl))
 have hcv:=Lib.run_convert_string_bytes (P:=Tryz.prog) w 9 78 5 t (u:=.string) Tryz.underlying9 Tryz.underlying78 Tryz.underlying5
 have hcell:∀j,j<s.length->(Lib.bytesWorld w 5 t).cell? ⟨w.heap.size,j,none⟩=some (.int .u8 (s.getD j 0).toNat):=fun j hj=>by
  rw[<-sC];exact Lib.bytesWorld_cell w 5 t j ab
 have SH:=ae (Lib.bytesWorld_below w 5 t)
 have hmv:IntKind.u64.wrap (IntKind.u64.wrap 2147483648-1)=2147483647:=by
  rw[IntKind.wrap_u64,IntKind.wrap_u64];decide
 obtain⟨W,hW⟩:∃W,W=Lib.bytesWorld w 5 t:=⟨_,rfl⟩
 rw[<-hW] at hcv hcell SH;have ayd:=ae hcell;unfold sv;rw[<-ht];clear hW sC hcell ht;rw[hsz] at hs;go_enter Tryz.func147,Tryz.ntmps147;go_wp2;go_loop [12,13,101] (fun vu vn vi=>∃(k acc:Nat) (x:Int),vu=.bool false/\vn=.int .u64 x/\vi=.int .i64 k/\k<=t.size/\Hid (x=acc/\acc<=2147483647/\Lib.parseUintM 2147483647 0 s=Lib.parseUintM 2147483647 acc (s.drop k))) (fun _ _ vi=>t.size-(intOf vi).toNat)
 case atStart=>exact⟨0,0,0,rfl,rfl,rfl,ab,ae ⟨rfl,ab,rfl⟩⟩
 case round=>
  obtain⟨k,acc,x,rfl,rfl,rfl,hk,H⟩:=hrel
  have x0:0<=x:=by have:=H.out;omega
  have x1:x<=2147483647:=by have:=H.out;omega
  by_cases hlt:k<t.size
  ·have hls:k<s.length:=ab;have hc:=ayd.out k hls
   have pA:s.getD k 0=s[k]:=by simp[List.getD,cy hls]
   have H2:=ae (show x=acc/\acc<=2147483647/\Lib.parseUintM 2147483647 0 s=Lib.parseUintM 2147483647 acc (s[k]::s.drop (k+1)) by rw[<-List.drop_eq_getElem_cons hls];exact H.out);rw[pA] at hc;generalize s[k]=c at hc H2;have aiD:c.toNat<256:=c.toNat_lt;clear pA;by_cases hd:48<=c.toNat/\c.toNat<=57
   ·obtain⟨d,hdd⟩:∃d:Int,d=(c.toNat:Int):=⟨_,rfl⟩
    have hd0:48<=d:=ab;have mO:d<=57:=ab;rw[<-hdd] at hc;by_cases YG:2147483647<x*10+(d-48)
    ·have xH:=ae (show Lib.parseUintM 2147483647 0 s=.range by
      obtain⟨e1,e2,e3⟩:=H2.out
      rw[e3,aiC hd e2,aj ab])
     clear H2 hdd hd aiD;go_wp2;go_ret2;rw[xH.out];exact⟨rfl,SH.out⟩
    ·have xH:=ae (show x*10+(d-48)=((acc*10+(c.toNat-48):Nat):Int)/\acc*10+(c.toNat-48)<=2147483647/\Lib.parseUintM 2147483647 0 s=Lib.parseUintM 2147483647 (acc*10+(c.toNat-48)) (s.drop (k+1)) by
      obtain⟨e1,e2,e3⟩:=H2.out;refine⟨ab,ab,?_⟩
      rw[e3,aiC hd e2,af ab])
     clear H2 hdd hd aiD;go_wp2;go_round
     case rel=>exact⟨k+1,_,x*10+(d-48),rfl,by go_num,by go_num,ab,xH⟩
     case measure=>simp[intOf];omega
   ·have xH:=ae (H2.out.2.2.trans (aya hd));have hv0:=bits_lo_u8 .or (c.toNat:Int) 32;have iO:=bits_hi_u8 .or (c.toNat:Int) 32;have hu0:=bits_lo_u8 .or 95 32;have YE:=bits_hi_u8 .or 95 32;clear H2
    go_wp2_with (go_at_call 195;refine(Tryz.internal_strconv_lower _ _).mono ?_;rintro e w' ⟨rfl,rfl⟩)
    all_goals go_ret2
    all_goals (rw[xH.out];exact⟨rfl,SH.out⟩)
  ·obtain rfl:k=t.size:=ab;have H2:=ae (show Lib.parseUintM 2147483647 0 s=.ok acc by rw[H.out.2.2,EH ab];rfl);have hx:=H.out.1;subst hx;go_wp2;go_ret2;rw[H2.out];exact⟨rfl,SH.out⟩
def SI (v:Value):Prop:=∃t p,v=.iface t p
theorem aye(fn:ByteArray)(s:aw)(b k:Int)(w:World)(hg:Gl w)(hs:s.length<=4000000000):
  Calls Tryz.prog 148 #[.string fn,sv s,I b,I k,.iface 298 (.int .i64 2)] w fun e w'=>∃v,e=.returned v/\SI v/\ay w w':=by
 obtain⟨te,pe,hv⟩:=hg.Ve;refine(Tryz.strconv_toError_syntax fn ⟨s.toArray⟩ b k (.iface te pe) w (by show s.toArray.size<=_;simp;omega) hv (.inr ⟨_,_,rfl⟩)).mono ?_;rintro e w' ⟨N,rfl,h1,h2,h3⟩;exact⟨_,rfl,⟨_,_,rfl⟩,h3⟩
theorem ayf(fn:ByteArray)(s:aw)(b k:Int)(w:World)(hg:Gl w)(hs:s.length<=4000000000):
  Calls Tryz.prog 148 #[.string fn,sv s,I b,I k,.iface 298 (.int .i64 1)] w fun e w'=>∃v,e=.returned v/\SI v/\ay w w':=by
 obtain⟨te,pe,hv⟩:=hg.Vf;refine(Tryz.strconv_toError_range fn ⟨s.toArray⟩ b k (.iface te pe) w (by show s.toArray.size<=_;simp;omega) hv (.inr ⟨_,_,rfl⟩)).mono ?_;rintro e w' ⟨N,rfl,h1,h2,h3⟩;exact⟨_,rfl,⟨_,_,rfl⟩,h3⟩
theorem ayg(w:World):
  Calls Tryz.prog 147 #[sv [],I 10,I 31] w fun e w'=>e=.returned (.tuple #[.int .u64 0,.iface 298 (.int .i64 2)])/\w=w':=by
 unfold sv;go_enter Tryz.func147,Tryz.ntmps147;go_wp2;go_ret2;exact⟨rfl,rfl⟩
def ayh (s:aw)(v:Value):Prop:=(∃u,Lib.parseUintB 31 s=.ok u/\v=.tuple #[.int .u64 (u:Nat),.nilIface])\/((∀u,Lib.parseUintB 31 s≠ .ok u)/\∃er,SI er/\v=.tuple #[.int .u64 (de s),er])
theorem aiE(s:aw)(w:World)(hg:Gl w)(hs:s.length<=4000000000):
  Calls Tryz.prog 100 #[sv s,I 10,I 31] w fun e w'=>(∃v,e=.returned v/\ayh s v)/\ay w w':=by
 have dF:∃T,T=Lib.parseUintB 31 s/\Calls Tryz.prog 147 #[sv s,I 10,I 31] w fun e w'=>e=.returned (Lib.uintTupleM 298 2147483647 T)/\ay w w':=by
  by_cases he:s=[]
  ·subst he;refine⟨.syntax,rfl,(ayg w).mono ?_⟩;rintro e w' ⟨rfl,rfl⟩;exact⟨rfl,Below.refl _ _⟩
  ·exact⟨_,rfl,by unfold Lib.parseUintB;rw[af he];exact ayb s he hs w⟩
 obtain⟨T,hT,hc⟩:=dF;have HT:=ae hT;have Hc:=ae hc;have HG:=ae hg;have dm:=hs;clear hT hc hg;have Hs:=ae hs;clear hs dm
 rcases T with u|_|_
 ·
  have hu:=(YO HT.out.symm).1;unfold sv at*;go_enter Tryz.func100,Tryz.ntmps100
  go_wp2_with (go_at_call 147;refine Hc.out.mono ?_;rintro e w1 ⟨rfl,hb⟩;unfold Lib.uintTupleM)
  go_ret2;exact⟨⟨_,rfl,.inl ⟨u,HT.out.symm,rfl⟩⟩,hb⟩
 ·
  have HN:=ae (show de s=0 by unfold de;rw[<-HT.out]);have HE:=ae (show∀u,Lib.parseUintB 31 s≠ .ok u by intro u;rw[<-HT.out];intro h;cases h);have Ht:=ae (fun w1 hb=>aye ⟨#[80,97,114,115,101,85,105,110,116]⟩ s 10 31 w1 (Gl.below HG.out hb) Hs.out);unfold sv at*;go_enter Tryz.func100,Tryz.ntmps100
  go_wp2_with (first|(go_at_call 147;refine Hc.out.mono ?_;rintro e w1 ⟨rfl,hb⟩;unfold Lib.uintTupleM)|(go_at_call 148;refine(Ht.out _ hb).mono ?_;rintro e w2 ⟨v,rfl,hv,cK⟩))
  go_ret2;exact⟨⟨_,rfl,.inr ⟨HE.out,_,hv,by rw[HN.out];rfl⟩⟩,hb.trans (cK.mono hb.size)⟩
 ·
  have HN:=ae (show de s=2147483647 by unfold de;rw[<-HT.out]);have HE:=ae (show∀u,Lib.parseUintB 31 s≠ .ok u by intro u;rw[<-HT.out];intro h;cases h);have Ht:=ae (fun w1 hb=>ayf ⟨#[80,97,114,115,101,85,105,110,116]⟩ s 10 31 w1 (Gl.below HG.out hb) Hs.out);unfold sv at*;go_enter Tryz.func100,Tryz.ntmps100
  go_wp2_with (first|(go_at_call 147;refine Hc.out.mono ?_;rintro e w1 ⟨rfl,hb⟩;unfold Lib.uintTupleM)|(go_at_call 148;refine(Ht.out _ hb).mono ?_;rintro e w2 ⟨v,rfl,hv,cK⟩))
  go_ret2;exact⟨⟨_,rfl,.inr ⟨HE.out,_,hv,by rw[HN.out];rfl⟩⟩,hb.trans (cK.mono hb.size)⟩
theorem ayi{s:aw}{u:Nat}(hu:Lib.parseUintB 31 s=.ok u)(w:World)(hg:Gl w)(hs:s.length<=4000000000):
  Calls Tryz.prog 100 #[sv s,I 10,I 31] w fun e w'=>e=.returned (.tuple #[.int .u64 (u:Nat),.nilIface])/\ay w w':=by
 refine(aiE s w hg hs).mono ?_;rintro e w' ⟨⟨v,rfl,⟨u',h1,rfl⟩|⟨h1,_⟩⟩,hb⟩
 ·rw[hu] at h1;injection h1 with h1;subst h1;exact⟨rfl,hb⟩
 ·exact absurd hu (h1 u)
theorem ayj{s:aw}(hu:∀u,Lib.parseUintB 31 s≠ .ok u)(w:World)(hg:Gl w)(hs:s.length<=4000000000):
  Calls Tryz.prog 100 #[sv s,I 10,I 31] w fun e w'=>(∃t p,e=.returned (.tuple #[.int .u64 (de s),.iface t p]))/\ay w w':=by
 refine(aiE s w hg hs).mono ?_;rintro e w' ⟨⟨v,rfl,⟨u',h1,rfl⟩|⟨h1,er,⟨t,p,rfl⟩,rfl⟩⟩,hb⟩
 ·exact absurd h1 (hu u')
 ·exact⟨⟨t,p,rfl⟩,hb⟩
theorem SJ(r:RS)(s:aw)(p:Nat)(w:World)(h:fF w p r)(hg:Gl w)(_hp:8<=p)(hs:s.length<=4000000000):
  Calls Tryz.prog 53 #[.pointer (some ⟨p,0,none⟩),sv s] w fun e w'=>e=.returned (I (de s))/\fF w' p (r.number s)/\w.grownBy w' (some p):=by
 obtain⟨rest,bad⟩:=r;have zm:p<w.heap.size:=ax.lt h
 have nz:∀w1,ay w w1->fF w1 p ⟨rest,bad⟩:=fun w1 hb=>ax.kept h hb zm
 have hN:((de s:Nat):Int)<=2147483647:=by have:=ahs s;omega
 have hcv:IntKind.i64.wrap ((de s:Nat):Int)=de s:=by rw[IntKind.wrap_i64];omega
 by_cases ct:∃u,Lib.parseUintB 31 s=.ok u
 ·obtain⟨u,hu⟩:=ct
  have hnu:de s=u:=by unfold de;rw[hu]
  have GD:=ae (ayi hu w hg hs);have ayk:=ae (YO hu).2;have HG:=ae hg;rw[hnu] at hN hcv⊢;have eI:=ae (fun w1 hb=>vL (u:Int) ⟨ab,ab⟩ w1 (Gl.below HG.out hb));have nz:=ae nz;clear h hg hu;unfold sv at GD⊢;have ayl:=ae (show(Lib.itoa (u:Int)==s)=isNum s by rw[Lib.itoa_nonneg,<-ayk.out,qy,Cl,cP]);have kX:=ae (show∀w1,ay w w1->fF (w1.setCell ⟨p,1,none⟩ (.bool (bad|| !isNum s))) p (RS.number ⟨rest,bad⟩ s) from fun w1 hb=>ax.set (nz.out w1 hb) 1 (.bool (bad|| !isNum s)))
  cases bad with
  |true=>
   go_enter Tryz.func53,Tryz.ntmps53
   go_wp2_with (go_at_call 100;refine GD.out.mono ?_;rintro e w1 ⟨rfl,hb⟩;have c1:w1.cell? ⟨p,1,none⟩=some (.bool true):=ax.cell (nz.out w1 hb) 1;have f1:=ax.frozen (nz.out w1 hb) 1)
   go_ret;exact⟨rfl,kX.out _ hb,(zw hb _).trans (fZ w1 ⟨p,1,none⟩ _)⟩
  |false=>
   go_enter Tryz.func53,Tryz.ntmps53
   go_wp2_with (first|(go_at_call 100;refine GD.out.mono ?_;rintro e w1 ⟨rfl,hb⟩;have c1:w1.cell? ⟨p,1,none⟩=some (.bool false):=ax.cell (nz.out w1 hb) 1)|(go_at_call 22;refine(eI.out _ hb).mono ?_;rintro e w2 ⟨rfl,cK⟩;have oK:=hb.trans (cK.mono hb.size);have c2:w2.cell? ⟨p,1,none⟩=some (.bool false):=ax.cell (nz.out w2 oK) 1;have f1:=ax.frozen (nz.out w2 oK) 1;unfold sv))
   go_ret;rw[ayl.out];exact⟨rfl,kX.out _ oK,(zw oK _).trans (fZ w2 ⟨p,1,none⟩ _)⟩
 ·have hu:∀u,Lib.parseUintB 31 s≠ .ok u:=fun u hu=>ct ⟨u,hu⟩
  have GD:=ae (ayj hu w hg hs);have SK:=avF hu
  have kX:=ae (show∀w1,ay w w1->fF (w1.setCell ⟨p,1,none⟩ (.bool true)) p (RS.number ⟨rest,bad⟩ s) from fun w1 hb=>by
   have:=ax.set (nz w1 hb) 1 (.bool true);unfold fF RS.number;rw[SK]
   simpa using this)
  have HH:=ae nz;clear h hg hu ct SK nz;unfold sv at GD⊢
  cases bad with
  |true=>
   go_enter Tryz.func53,Tryz.ntmps53
   go_wp2_with (go_at_call 100;refine GD.out.mono ?_;rintro e w1 ⟨⟨t,q,rfl⟩,hb⟩;have c1:w1.cell? ⟨p,1,none⟩=some (.bool true):=ax.cell (HH.out w1 hb) 1;have f1:=ax.frozen (HH.out w1 hb) 1)
   go_ret;exact⟨rfl,kX.out _ hb,(zw hb _).trans (fZ w1 ⟨p,1,none⟩ _)⟩
  |false=>
   go_enter Tryz.func53,Tryz.ntmps53
   go_wp2_with (go_at_call 100;refine GD.out.mono ?_;rintro e w1 ⟨⟨t,q,rfl⟩,hb⟩;have c1:w1.cell? ⟨p,1,none⟩=some (.bool false):=ax.cell (HH.out w1 hb) 1;have f1:=ax.frozen (HH.out w1 hb) 1)
   go_ret;exact⟨rfl,kX.out _ hb,(zw hb _).trans (fZ w1 ⟨p,1,none⟩ _)⟩
end
section
open Go.RowKit
variable {l:List aw}
theorem aiF:∀(s:aw) (acc v:Nat),mN acc s=some v->v<=2147483647->Lib.parseUint10 acc s=.ok v
 |[],acc,v,h,hv=>by simp only[mN] at h;injection h with h;subst h;rfl
 |c::s,acc,v,h,hv=>by
  simp only[mN] at h;split at h
  ·rename_i hd;have hg:=YM s _ v h;simp only[Lib.parseUint10,aj hd];rw[af ab,af ab];exact aiF s _ v h hv
  ·cases h
theorem aym{s:aw}{n:Nat}(h:num s=some n):Lib.atoiAll s=.ok (n:Int):=by
 obtain⟨h1,rfl⟩:=(xx _ _).1 h;have hp:=aiF _ _ _ (YL n) h1;have hd:=Sg n
 cases hs:Lib.decDigits n with
 |nil=>exact absurd hs (JY n)
 |cons c r=>
  rw[hs] at hp hd;have hc:=hd c ai;unfold Lib.atoiAll;simp only[];rw[af ab];unfold Lib.parseMag;rw[af ai,hp];simp only[];rw[af ab,af ab,af ab]
theorem ayn{s:aw}{n:Nat}(h:num s=some n)(w:World)(hs:s.length<=4000000000):
  Calls Tryz.prog 146 #[sv s] w fun e w'=>e=.returned (.tuple #[I n,.nilIface])/\ay w w':=by
 refine(Tryz.strconv_Atoi_ok ⟨s.toArray⟩ (by show s.toArray.size<=_;simp;omega) n (aym h) w).mono ?_;rintro e w' ⟨rfl,rfl|⟨t,rfl⟩⟩
 ·exact⟨rfl,Below.refl _ _⟩
 ·exact⟨rfl,Lib.bytesWorld_below _ _ _⟩
def aiG (s:aw)(v:Int)(er:Value):Prop:=SI er\/(er=.nilIface/\(v<0\/(0<=v/\2147483647<v)\/(0<=v/\v<=2147483647/\(Lib.itoa v==s)=false)))
theorem ayo{s:aw}(h:num s=none)(w:World)(hg:Gl w)(hs:s.length<=4000000000):
  Calls Tryz.prog 146 #[sv s] w fun e w'=>(∃v er,e=.returned (.tuple #[I v,er])/\aiG s v er)/\ay w w':=by
 rcases ha:Lib.atoiAll s with v|_|_
 ·
  refine(Tryz.strconv_Atoi_ok ⟨s.toArray⟩ (by show s.toArray.size<=_;simp;omega) v ha w).mono ?_
  have hb:aiG s v .nilIface:=by
   refine .inr ⟨rfl,?_⟩;by_cases h0:v<0
   ·exact .inl h0
   ·by_cases h1:2147483647<v
    ·exact .inr (.inl ⟨ab,h1⟩)
    ·refine .inr (.inr ⟨ab,ab,?_⟩);rw[nV];intro e
     obtain⟨u,rfl⟩:∃u:Nat,v=u:=⟨v.toNat,ab⟩
     rw[Lib.itoa_nonneg] at e;rw[(xx s u).2 ⟨ab,e.symm⟩] at h;cases h
  rintro e w' ⟨rfl,rfl|⟨t,rfl⟩⟩
  ·exact⟨⟨_,_,rfl,hb⟩,Below.refl _ _⟩
  ·exact⟨⟨_,_,rfl,hb⟩,Lib.bytesWorld_below _ _ _⟩
 ·
  obtain⟨te,pe,hv⟩:=hg.Ve;refine(Tryz.strconv_Atoi_syntax ⟨s.toArray⟩ (by show s.toArray.size<=_;simp;omega) ha (.iface te pe) w hv (.inr ⟨_,_,rfl⟩)).mono ?_;rintro e w' ⟨N,rfl,h1,h2,h3⟩;exact⟨⟨_,_,rfl,.inl ⟨_,_,rfl⟩⟩,h3⟩
 ·
  obtain⟨te,pe,hv⟩:=hg.Vf;refine(Tryz.strconv_Atoi_range ⟨s.toArray⟩ (by show s.toArray.size<=_;simp;omega) ha (.iface te pe) w hv (.inr ⟨_,_,rfl⟩)).mono ?_;rintro e w' ⟨N,rfl,h1,h2,h3⟩;exact⟨⟨_,_,rfl,.inl ⟨_,_,rfl⟩⟩,h3⟩
theorem SL(c:UInt8)(s:aw):∀t∈bM c s,t.length<=s.length:=by
 induction s with
 |nil=>intro t ht;simp[bM] at ht;subst ht;simp
 |cons x r ih=>
  intro t ht;simp only[bM] at ht;split at ht
  ·rcases bZ.1 ht with rfl|ht
   ·simp
   ·have:=ih t ht;simp;omega
  ·cases hs:bM c r with
   |nil=>exact absurd hs (YT c r)
   |cons a b=>
    rw[hs] at ht ih
    rcases bZ.1 ht with rfl|ht
    ·have:=ih a ai;simp;omega
    ·have:=ih t (by simp[ht]);simp;omega
theorem ayp{s:aw}{ns:List Nat}{n:Nat}(h:l.mapM num=some ns)(hn:num s=some n):(l++[s]).mapM num=some (ns++[n]):=by
 rw[List.mapM_append,h];simp[hn]
theorem mapM_none{s:aw}(hm:s∈l)(hn:num s=none):l.mapM num=none:=by
 induction l with
 |nil=>cases hm
 |cons a l ih=>
  rcases bZ.1 hm with rfl|hm
  ·simp[EN,hn]
  ·rw[EN,ih hm];cases num a<;>rfl
theorem mapM_length{ns:List Nat}(h:l.mapM num=some ns):ns.length=l.length:=by
 induction l generalizing ns with
 |nil=>simp at h;subst h;rfl
 |cons a l ih=>
  rw[EN] at h
  cases ha:num a with
  |none=>rw[ha] at h;simp at h
  |some x=>
   cases hl:l.mapM num with
   |none=>rw[ha,hl] at h;simp at h
   |some y=>
    rw[ha,hl] at h;simp at h;subst h;simp[ih hl]
def aiH (B:Nat)(w:World)(v:Value)(o:Option (List Nat)):Prop:=match o with
 |none=>v=.slice none 0 0
 |some l=>∃g c,v=.slice (some ⟨g,0,none⟩) l.length c/\B<=g/\bW w v (l.map fun n:Nat=>(n:Int))
theorem ayq(s:aw)(many:Nat)(w:World)(hg:Gl w)(hs:s.length<=4000000000)(Bh:1<=many)(hm:many<=100):
  Calls Tryz.prog 98 #[sv s,I many] w fun e w'=>(∃v,e=.returned v/\aiH w.heap.size w' v (eH s many))/\ay w w':=by
 have vM:=ae (Nr s 46 w hg hs);have sH:=ae (SL 46 s);have Hd:=ae (show eH s many=if(bM 46 s).length=many then(bM 46 s).mapM num else none from rfl)
 have hne:0<(bM 46 s).length:=by rw[Ka];omega
 generalize bM 46 s=ws at*;unfold sv at vM⊢;by_cases hl:ws.length=many
 ·have jl:(ws.length:Int)=(many:Int):=ab;rw[aj hl] at Hd;subst hl;clear jl;have HG:=ae hg;clear hg;go_enter Tryz.func98,Tryz.ntmps98
  go_wp2_with (go_at_call 16;refine vM.out.mono ?_;rintro e w1 ⟨rfl,aW,lH,aDT⟩)
  have pY:=ae aW;have xI:=ae lH;clear aW lH;go_loopw [6,19] (fun vo i wr=>∃(k:Nat) (ns:List Nat) (av:Option Addr) (ac:Nat),vo=.slice av k ac/\k<=ws.length/\i=.int .i64 k/\ns.length=k/\Hid ((ws.take k).mapM num=some ns)/\Hid (ay w1 wr)/\Hid (wr.ownsRow w1.heap.size 3 1 (.slice av k ac) k (iv (ns.map fun n:Nat=>(n:Int))))) (fun _ i _=>ws.length-(intOf i).toNat)
  case atStart=>exact⟨0,[],none,0,rfl,ab,rfl,rfl,ae rfl,ae (Below.refl _ _),ae (jU _ _ _ _)⟩
  case round=>
   obtain⟨k,ns,av,ac,rfl,hk,rfl,jP,Hns,Kz,iy⟩:=hrel;have aDU:=Kz.out.size;by_cases hlt:k<ws.length
   ·have hcell:wr.cell? ⟨w.heap.size,k,none⟩=some (sv ws[k]):=(Kz.out.cell (p:=⟨w.heap.size,k,none⟩) (by show w.heap.size<w1.heap.size;omega)).trans (pY.out.cell (by simp[hlt]));have cM:ws.take (k+1)=ws.take k++[ws[k]]:=List.take_succ_eq_append_getElem hlt;have pZ:=ae (HG.out.below (xI.out.trans (Kz.out.mono ab)));have SM:(ws[k]).length<=4000000000:=bh (sH.out _ (cA _)) hs
    cases hn:num ws[k] with
    |some n=>
     have nz:=ae (ayn hn wr SM);obtain⟨fD,xJ⟩:=(xx _ _).1 hn;have eI:=ae (fun w2 (hb:ay wr w2)=>vL (n:Int) ⟨ab,ab⟩ w2 (Gl.below pZ.out hb))
     have hbq:(Lib.itoa (n:Int)==ws[k])=true:=by rw[Lib.itoa_nonneg,Cl,xJ]
     have ayr:=ae (show(ws.take (k+1)).mapM num=some (ns++[n]) by rw[cM];exact ayp Hns.out hn);clear cM hn xJ SM;generalize ws[k]=q at hcell nz hbq;unfold sv at hcell nz
     go_wp2_with (first
      |(go_at_call 146;refine nz.out.mono ?_;rintro e w2 ⟨rfl,cK⟩)
      |(go_at_call 22;refine(eI.out _ cK).mono ?_;rintro e w3 ⟨rfl,oK⟩;have FX:=cK.trans (oK.mono cK.size);have axz:=FX.size;have SN:=rU iy.out FX;unfold sv)
      |(at_builtin;go_must (refine uT rfl _ _ 22 rfl 3 _ 1 8 Tryz.underlying22 Co rfl ab ab w1.heap.size (.slice av k ac) k (iv (ns.map fun n:Nat=>(n:Int))) rfl (SN.alloc _) w3.heap.size 1 1 #[I n] 3 rfl (ej _ _) rfl rfl ab ab (by rw[World.size_alloc];omega) ?_);intro g5 BA w5 kj kS oR mQ rE iP))
     go_roundw
     case rel=>exact⟨k+1,ns++[n],_,_,by go_num,ab,by go_num,by simp[jP],ayr,ae ((Kz.out.trans (FX.mono ab)).trans (((Below.refl _ _).alloc ab _).trans iP)),ae (by simpa [iv] using mQ)⟩
     case measure=>simp[intOf];omega
    |none=>
     have nz:=ae (ayo hn wr pZ.out SM);have eI:=ae (fun(v:Int) (h0:0<=v) (h1:v<=2147483647) w2 (hb:ay wr w2)=>vL v ⟨ab,ab⟩ w2 (Gl.below pZ.out hb));have Hno:=ae (mapM_none (cA hlt) hn);have SP:=ae (xI.out.trans (Kz.out.mono ab));clear cM hn SM;generalize ws[k]=q at hcell nz;unfold sv at hcell nz
     go_wp2_with (first
      |(go_at_call 146;refine nz.out.mono ?_;rintro e w2 ⟨⟨v,er,rfl,(⟨t,p,rfl⟩|⟨rfl,(h1|⟨h0,h1⟩|⟨h0,h1,h2⟩)⟩)⟩,cK⟩)
      |(go_at_call 22;refine(eI.out _ h0 h1 _ cK).mono ?_;rintro e w3 ⟨rfl,oK⟩;have FX:=cK.trans (oK.mono cK.size);unfold sv))
     all_goals go_ret
     all_goals (rw[Hd.out,Hno.out])
     all_goals first|exact⟨⟨_,rfl,rfl⟩,SP.out.trans (FX.mono ab)⟩|exact⟨⟨_,rfl,rfl⟩,SP.out.trans (cK.mono ab)⟩
   ·obtain rfl:k=ws.length:=ab
    have ays:=ae (show aiH w.heap.size wr (.slice av ws.length ac) (ws.mapM num) by
     rw[fx] at Hns;rw[Hns.out];have hf:=Flat.dU iy.out
     have jY:(ns.map fun n:Nat=>(n:Int)).length=ws.length:=by simp[jP]
     obtain⟨_,h0|⟨g,cap',cur,hv,hbg,hh,_⟩⟩:=iy.out
     ·exact absurd h0.1 ab
     ·injection hv with e1 e2 e3;subst e1 e3
      exact⟨g,_,by rw[jP],ab,by unfold bW;rw[jY];exact hf⟩)
    have SP:=ae (xI.out.trans (Kz.out.mono ab));go_wp2_with fail;go_ret;rw[Hd.out];exact⟨⟨_,rfl,ays.out⟩,SP.out⟩
 ·have jl:((ws.length:Int)==(many:Int))=false:=nV.2 ab;have jY:¬(ws.length:Int)=(many:Int):=ab;rw[af hl] at Hd;go_enter Tryz.func98,Tryz.ntmps98
  go_wp2_with (go_at_call 16;refine vM.out.mono ?_;rintro e w1 ⟨rfl,_,hb,_⟩)
  go_ret;rw[Hd.out];exact⟨⟨_,rfl,rfl⟩,hb⟩
end
end Go.Proofs.YtngblilamkkikaaGreatDoor
