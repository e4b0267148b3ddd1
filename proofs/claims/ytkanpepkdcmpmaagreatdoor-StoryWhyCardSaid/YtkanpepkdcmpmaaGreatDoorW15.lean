import Derived.Lib.ParseIntBMem
import Derived.Lib.AtoiErrMem
import Derived.Test.YtkanpepkdcmpmaaGreatDoorW10
set_option maxHeartbeats 40000000
set_option maxRecDepth 100000
set_option linter.all false
namespace Go.Proofs.YtkanpepkdcmpmaaGreatDoor
section
open Go.RowKit
def gO (w:World)(p:Nat)(r:RS):Prop:=ay w p #[sv r.rest,.bool r.bad]
end
section
open Go.RowKit
variable {acc:Nat} {c:UInt8} {r:aq}
theorem aih(hd:48<=c.toNat/\c.toNat<=57)(ha:acc<=2147483647):
  Lib.parseUintM 2147483647 acc (c::r)=if 2147483647<acc*10+(c.toNat-48) then .range else Lib.parseUintM 2147483647 (acc*10+(c.toNat-48)) r:=by
 simp only[Lib.parseUintM];rw[aj hd,af ab]
theorem awj(hd:¬(48<=c.toNat/\c.toNat<=57)):Lib.parseUintM 2147483647 acc (c::r)=.syntax:=by
 simp only[Lib.parseUintM];rw[af hd]
theorem awk(s:aq)(hne:s≠[])(hs:s.length<=4000000000)(w:World):
  Calls Tryz.prog 192 #[sv s,I 10,I 31] w fun e w'=>e=.returned (Lib.uintTupleM 329 2147483647 (Lib.parseUintM 2147483647 0 s))/\aw w w':=by
 obtain⟨t,ht⟩:∃t:ByteArray,t=⟨s.toArray⟩:=⟨_,rfl⟩
 have ni:t.data.toList=s:=by rw[ht]
 have hsz:s.length=t.size:=by rw[<-ni,Lib.size_eq]
 have awl:t.toList.isEmpty=false:=by
  rw[<-decide_eq_emptyBytes];exact jw (fun h=>hne (by rw[<-ni,h];rfl))
 have hcv:=Lib.run_convert_string_bytes (P:=Tryz.prog) w 9 86 5 t (u:=.string) Tryz.underlying9 Tryz.underlying86 Tryz.underlying5
 have hcell:∀j,j<s.length->(Lib.bytesWorld w 5 t).cell? ⟨w.heap.size,j,none⟩=some (.int .u8 (s.getD j 0).toNat):=fun j hj=>by
  rw[<-ni];exact Lib.bytesWorld_cell w 5 t j ab
 have TE:=ae (Lib.bytesWorld_below w 5 t)
 have hmv:IntKind.u64.wrap (IntKind.u64.wrap 2147483648-1)=2147483647:=by
  rw[IntKind.wrap_u64,IntKind.wrap_u64];decide
 obtain⟨W,hW⟩:∃W,W=Lib.bytesWorld w 5 t:=⟨_,rfl⟩
 rw[<-hW] at hcv hcell TE;have awm:=ae hcell;unfold sv;rw[<-ht];clear hW ni hcell ht;rw[hsz] at hs;go_enter Tryz.func192,Tryz.ntmps192;go_wp2;go_loop [12,13,101] (fun vu vn vi=>∃(k acc:Nat) (x:Int),vu=.bool false/\vn=.int .u64 x/\vi=.int .i64 k/\k<=t.size/\Hid (x=acc/\acc<=2147483647/\Lib.parseUintM 2147483647 0 s=Lib.parseUintM 2147483647 acc (s.drop k))) (fun _ _ vi=>t.size-(intOf vi).toNat)
 case atStart=>exact⟨0,0,0,rfl,rfl,rfl,ab,ae ⟨rfl,ab,rfl⟩⟩
 case round=>
  obtain⟨k,acc,x,rfl,rfl,rfl,hk,H⟩:=hrel
  have x0:0<=x:=by have:=H.out;omega
  have x1:x<=2147483647:=by have:=H.out;omega
  by_cases hlt:k<t.size
  ·have hls:k<s.length:=ab;have hc:=awm.out k hls
   have qN:s.getD k 0=s[k]:=by simp[List.getD,cz hls]
   have H2:=ae (show x=acc/\acc<=2147483647/\Lib.parseUintM 2147483647 0 s=Lib.parseUintM 2147483647 acc (s[k]::s.drop (k+1)) by rw[<-List.drop_eq_getElem_cons hls];exact H.out);rw[qN] at hc;generalize s[k]=c at hc H2;have aii:c.toNat<256:=c.toNat_lt;clear qN;by_cases hd:48<=c.toNat/\c.toNat<=57
   ·obtain⟨d,hdd⟩:∃d:Int,d=(c.toNat:Int):=⟨_,rfl⟩
    have Td:48<=d:=ab;have jH:d<=57:=ab;rw[<-hdd] at hc;by_cases hov:2147483647<x*10+(d-48)
    ·have vT:=ae (show Lib.parseUintM 2147483647 0 s=.range by
      obtain⟨e1,e2,e3⟩:=H2.out
      rw[e3,aih hd e2,aj ab])
     clear H2 hdd hd aii;go_wp2;go_ret2;rw[vT.out];exact⟨rfl,TE.out⟩
    ·have vT:=ae (show x*10+(d-48)=((acc*10+(c.toNat-48):Nat):Int)/\acc*10+(c.toNat-48)<=2147483647/\Lib.parseUintM 2147483647 0 s=Lib.parseUintM 2147483647 (acc*10+(c.toNat-48)) (s.drop (k+1)) by
      obtain⟨e1,e2,e3⟩:=H2.out;refine⟨ab,ab,?_⟩
      rw[e3,aih hd e2,af ab])
     clear H2 hdd hd aii;go_wp2;go_round
     case rel=>exact⟨k+1,_,x*10+(d-48),rfl,by go_num,by go_num,ab,vT⟩
     case measure=>simp[intOf];omega
   ·have vT:=ae (H2.out.2.2.trans (awj hd));have hv0:=bits_lo_u8 .or (c.toNat:Int) 32;have ji:=bits_hi_u8 .or (c.toNat:Int) 32;have hu0:=bits_lo_u8 .or 95 32;have Pb:=bits_hi_u8 .or 95 32;clear H2
    go_wp2_with (go_at_call 237;refine(Tryz.internal_strconv_lower _ _).mono ?_;rintro e w' ⟨rfl,rfl⟩)
    all_goals go_ret2
    all_goals (rw[vT.out];exact⟨rfl,TE.out⟩)
  ·obtain rfl:k=t.size:=ab;have H2:=ae (show Lib.parseUintM 2147483647 0 s=.ok acc by rw[H.out.2.2,Gn ab];rfl);have hx:=H.out.1;subst hx;go_wp2;go_ret2;rw[H2.out];exact⟨rfl,TE.out⟩
def TF (v:Value):Prop:=∃t p,v=.iface t p
theorem awn(fn:ByteArray)(s:aq)(b k:Int)(w:World)(hg:Gl w)(hs:s.length<=4000000000):
  Calls Tryz.prog 193 #[.string fn,sv s,I b,I k,.iface 329 (.int .i64 2)] w fun e w'=>∃v,e=.returned v/\TF v/\aw w w':=by
 obtain⟨te,pe,hv⟩:=hg.WT;refine(Tryz.strconv_toError_syntax fn ⟨s.toArray⟩ b k (.iface te pe) w (by show s.toArray.size<=_;simp;omega) hv (.inr ⟨_,_,rfl⟩)).mono ?_;rintro e w' ⟨N,rfl,h1,h2,h3⟩;exact⟨_,rfl,⟨_,_,rfl⟩,h3⟩
theorem awo(fn:ByteArray)(s:aq)(b k:Int)(w:World)(hg:Gl w)(hs:s.length<=4000000000):
  Calls Tryz.prog 193 #[.string fn,sv s,I b,I k,.iface 329 (.int .i64 1)] w fun e w'=>∃v,e=.returned v/\TF v/\aw w w':=by
 obtain⟨te,pe,hv⟩:=hg.WU;refine(Tryz.strconv_toError_range fn ⟨s.toArray⟩ b k (.iface te pe) w (by show s.toArray.size<=_;simp;omega) hv (.inr ⟨_,_,rfl⟩)).mono ?_;rintro e w' ⟨N,rfl,h1,h2,h3⟩;exact⟨_,rfl,⟨_,_,rfl⟩,h3⟩
theorem awq(w:World):
  Calls Tryz.prog 192 #[sv [],I 10,I 31] w fun e w'=>e=.returned (.tuple #[.int .u64 0,.iface 329 (.int .i64 2)])/\w=w':=by
 unfold sv;go_enter Tryz.func192,Tryz.ntmps192;go_wp2;go_ret2;exact⟨rfl,rfl⟩
def awr (s:aq)(v:Value):Prop:=(∃u,Lib.parseUintB 31 s=.ok u/\v=.tuple #[.int .u64 (u:Nat),.nilIface])\/((∀u,Lib.parseUintB 31 s≠ .ok u)/\∃er,TF er/\v=.tuple #[.int .u64 (dM s),er])
theorem aij(s:aq)(w:World)(hg:Gl w)(hs:s.length<=4000000000):
  Calls Tryz.prog 148 #[sv s,I 10,I 31] w fun e w'=>(∃v,e=.returned v/\awr s v)/\aw w w':=by
 have dZ:∃T,T=Lib.parseUintB 31 s/\Calls Tryz.prog 192 #[sv s,I 10,I 31] w fun e w'=>e=.returned (Lib.uintTupleM 329 2147483647 T)/\aw w w':=by
  by_cases he:s=[]
  ·subst he;refine⟨.syntax,rfl,(awq w).mono ?_⟩;rintro e w' ⟨rfl,rfl⟩;exact⟨rfl,Below.refl _ _⟩
  ·exact⟨_,rfl,by unfold Lib.parseUintB;rw[af he];exact awk s he hs w⟩
 obtain⟨T,hT,hc⟩:=dZ;have HT:=ae hT;have Hc:=ae hc;have HG:=ae hg;have dP:=hs;clear hT hc hg;have Hs:=ae hs;clear hs dP
 rcases T with u|_|_
 ·
  have hu:=(YY HT.out.symm).1;unfold sv at*;go_enter Tryz.func148,Tryz.ntmps148
  go_wp2_with (go_at_call 192;refine Hc.out.mono ?_;rintro e w1 ⟨rfl,hb⟩;unfold Lib.uintTupleM)
  go_ret2;exact⟨⟨_,rfl,.inl ⟨u,HT.out.symm,rfl⟩⟩,hb⟩
 ·
  have HN:=ae (show dM s=0 by unfold dM;rw[<-HT.out]);have HE:=ae (show∀u,Lib.parseUintB 31 s≠ .ok u by intro u;rw[<-HT.out];intro h;cases h);have Ht:=ae (fun w1 hb=>awn ⟨#[80,97,114,115,101,85,105,110,116]⟩ s 10 31 w1 (Gl.below HG.out hb) Hs.out);unfold sv at*;go_enter Tryz.func148,Tryz.ntmps148
  go_wp2_with (first|(go_at_call 192;refine Hc.out.mono ?_;rintro e w1 ⟨rfl,hb⟩;unfold Lib.uintTupleM)|(go_at_call 193;refine(Ht.out _ hb).mono ?_;rintro e w2 ⟨v,rfl,hv,fc⟩))
  go_ret2;exact⟨⟨_,rfl,.inr ⟨HE.out,_,hv,by rw[HN.out];rfl⟩⟩,hb.trans (fc.mono hb.size)⟩
 ·
  have HN:=ae (show dM s=2147483647 by unfold dM;rw[<-HT.out]);have HE:=ae (show∀u,Lib.parseUintB 31 s≠ .ok u by intro u;rw[<-HT.out];intro h;cases h);have Ht:=ae (fun w1 hb=>awo ⟨#[80,97,114,115,101,85,105,110,116]⟩ s 10 31 w1 (Gl.below HG.out hb) Hs.out);unfold sv at*;go_enter Tryz.func148,Tryz.ntmps148
  go_wp2_with (first|(go_at_call 192;refine Hc.out.mono ?_;rintro e w1 ⟨rfl,hb⟩;unfold Lib.uintTupleM)|(go_at_call 193;refine(Ht.out _ hb).mono ?_;rintro e w2 ⟨v,rfl,hv,fc⟩))
  go_ret2;exact⟨⟨_,rfl,.inr ⟨HE.out,_,hv,by rw[HN.out];rfl⟩⟩,hb.trans (fc.mono hb.size)⟩
theorem aik{s:aq}{u:Nat}(hu:Lib.parseUintB 31 s=.ok u)(w:World)(hg:Gl w)(hs:s.length<=4000000000):
  Calls Tryz.prog 148 #[sv s,I 10,I 31] w fun e w'=>e=.returned (.tuple #[.int .u64 (u:Nat),.nilIface])/\aw w w':=by
 refine(aij s w hg hs).mono ?_;rintro e w' ⟨⟨v,rfl,⟨u',h1,rfl⟩|⟨h1,_⟩⟩,hb⟩
 ·rw[hu] at h1;injection h1 with h1;subst h1;exact⟨rfl,hb⟩
 ·exact absurd hu (h1 u)
end
section
open Go.RowKit
variable {l:List aq}
theorem ail:∀(s:aq) (acc v:Nat),nO acc s=some v->v<=2147483647->Lib.parseUint10 acc s=.ok v
 |[],acc,v,h,hv=>by simp only[nO] at h;injection h with h;subst h;rfl
 |c::s,acc,v,h,hv=>by
  simp only[nO] at h;split at h
  ·rename_i hd;have hg:=YW s _ v h;simp only[Lib.parseUint10,aj hd];rw[af ab,af ab];exact ail s _ v h hv
  ·cases h
theorem aws{s:aq}{n:Nat}(h:num s=some n):Lib.atoiAll s=.ok (n:Int):=by
 obtain⟨h1,rfl⟩:=(yQ _ _).1 h;have hp:=ail _ _ _ (YV n) h1;have hd:=Tf n
 cases hs:Lib.decDigits n with
 |nil=>exact absurd hs (Lr n)
 |cons c r=>
  rw[hs] at hp hd;have hc:=hd c ai;unfold Lib.atoiAll;simp only[];rw[af ab];unfold Lib.parseMag;rw[af ai,hp];simp only[];rw[af ab,af ab,af ab]
theorem awt{s:aq}{n:Nat}(h:num s=some n)(w:World)(hs:s.length<=4000000000):
  Calls Tryz.prog 181 #[sv s] w fun e w'=>e=.returned (.tuple #[I n,.nilIface])/\aw w w':=by
 refine(Tryz.strconv_Atoi_ok ⟨s.toArray⟩ (by show s.toArray.size<=_;simp;omega) n (aws h) w).mono ?_;rintro e w' ⟨rfl,rfl|⟨t,rfl⟩⟩
 ·exact⟨rfl,Below.refl _ _⟩
 ·exact⟨rfl,Lib.bytesWorld_below _ _ _⟩
def aae (s:aq)(v:Int)(er:Value):Prop:=TF er\/(er=.nilIface/\(v<0\/(0<=v/\2147483647<v)\/(0<=v/\v<=2147483647/\(Lib.itoa v==s)=false)))
theorem awu{s:aq}(h:num s=none)(w:World)(hg:Gl w)(hs:s.length<=4000000000):
  Calls Tryz.prog 181 #[sv s] w fun e w'=>(∃v er,e=.returned (.tuple #[I v,er])/\aae s v er)/\aw w w':=by
 rcases ha:Lib.atoiAll s with v|_|_
 ·
  refine(Tryz.strconv_Atoi_ok ⟨s.toArray⟩ (by show s.toArray.size<=_;simp;omega) v ha w).mono ?_
  have hb:aae s v .nilIface:=by
   refine .inr ⟨rfl,?_⟩;by_cases h0:v<0
   ·exact .inl h0
   ·by_cases h1:2147483647<v
    ·exact .inr (.inl ⟨ab,h1⟩)
    ·refine .inr (.inr ⟨ab,ab,?_⟩);rw[mO];intro e
     obtain⟨u,rfl⟩:∃u:Nat,v=u:=⟨v.toNat,ab⟩
     rw[Lib.itoa_nonneg] at e;rw[(yQ s u).2 ⟨ab,e.symm⟩] at h;cases h
  rintro e w' ⟨rfl,rfl|⟨t,rfl⟩⟩
  ·exact⟨⟨_,_,rfl,hb⟩,Below.refl _ _⟩
  ·exact⟨⟨_,_,rfl,hb⟩,Lib.bytesWorld_below _ _ _⟩
 ·
  obtain⟨te,pe,hv⟩:=hg.WT;refine(Tryz.strconv_Atoi_syntax ⟨s.toArray⟩ (by show s.toArray.size<=_;simp;omega) ha (.iface te pe) w hv (.inr ⟨_,_,rfl⟩)).mono ?_;rintro e w' ⟨N,rfl,h1,h2,h3⟩;exact⟨⟨_,_,rfl,.inl ⟨_,_,rfl⟩⟩,h3⟩
 ·
  obtain⟨te,pe,hv⟩:=hg.WU;refine(Tryz.strconv_Atoi_range ⟨s.toArray⟩ (by show s.toArray.size<=_;simp;omega) ha (.iface te pe) w hv (.inr ⟨_,_,rfl⟩)).mono ?_;rintro e w' ⟨N,rfl,h1,h2,h3⟩;exact⟨⟨_,_,rfl,.inl ⟨_,_,rfl⟩⟩,h3⟩
theorem TG(c:UInt8)(s:aq):∀t∈cg c s,t.length<=s.length:=by
 induction s with
 |nil=>intro t ht;simp[cg] at ht;subst ht;simp
 |cons x r ih=>
  intro t ht;simp only[cg] at ht;split at ht
  ·rcases cA.1 ht with rfl|ht
   ·simp
   ·have:=ih t ht;simp;omega
  ·cases hs:cg c r with
   |nil=>exact absurd hs (Zd c r)
   |cons a b=>
    rw[hs] at ht ih
    rcases cA.1 ht with rfl|ht
    ·have:=ih a ai;simp;omega
    ·have:=ih t (by simp[ht]);simp;omega
theorem awv{s:aq}{ns:List Nat}{n:Nat}(h:l.mapM num=some ns)(hn:num s=some n):(l++[s]).mapM num=some (ns++[n]):=by
 rw[List.mapM_append,h];simp[hn]
theorem mapM_none{s:aq}(hm:s∈l)(hn:num s=none):l.mapM num=none:=by
 induction l with
 |nil=>cases hm
 |cons a l ih=>
  rcases cA.1 hm with rfl|hm
  ·simp[Gw,hn]
  ·rw[Gw,ih hm];cases num a<;>rfl
theorem mapM_length{ns:List Nat}(h:l.mapM num=some ns):ns.length=l.length:=by
 induction l generalizing ns with
 |nil=>simp at h;subst h;rfl
 |cons a l ih=>
  rw[Gw] at h
  cases ha:num a with
  |none=>rw[ha] at h;simp at h
  |some x=>
   cases hl:l.mapM num with
   |none=>rw[ha,hl] at h;simp at h
   |some y=>
    rw[ha,hl] at h;simp at h;subst h;simp[ih hl]
end
end Go.Proofs.YtkanpepkdcmpmaaGreatDoor
