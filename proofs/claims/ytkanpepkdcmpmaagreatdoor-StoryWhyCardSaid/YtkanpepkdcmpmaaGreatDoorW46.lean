import Derived.Test.YtkanpepkdcmpmaaGreatDoorW45
import Derived.Test.YtkanpepkdcmpmaaGreatDoorW38
import Derived.Lib.SmallJoins
import Derived.Deep.Slices
import Derived.Deep.Matrix
set_option maxHeartbeats 40000000
set_option maxRecDepth 100000
set_option linter.all false
namespace Go.Proofs.YtkanpepkdcmpmaaGreatDoor
section
open Go Go.RowKit
theorem acq {w:World}{l:List Int}{k:Option Addr}{c:Nat}(h:br w (.slice k l.length c) l)(hc:l.length<=c):Ab.WI w (fun _=>False) (.c (Ab.ints l)) (.slice k l.length c):=
 ⟨rfl,(Ab.ayG h hc).uY (S:=fun _=> .dead 0) (G:=fun _=>Ab.gh 0) (H:=fun _=>undef)⟩
def MR (s:az):Prop:=sV s.ev/\(∀a∈s.asks,zo a)/\s.asks.length<=4/\s.sent.length<=500
theorem acr {l l2:List Int}{k k2:Option Addr}{c c2:Nat}{w:World}(h:br w (.slice k l.length c) l)(hc:l.length<=c)(hi:∀x∈l,cJ x)(h2:br w (.slice k2 l2.length c2) l2)(dW:l2.length<=c2)(rL:∀x∈l2,cJ x)(hg:Gl w):
  ∃run:List az,run.length<=20/\(∀s∈run,MR s)/\Calls Tryz.prog 7 #[.slice k l.length c,.slice k2 l2.length c2] w fun e w'=>∃u,e=.returned u/\fH w' u run/\aw w w':=by
 obtain⟨cf,e1,zD⟩:=aD.abm l;obtain⟨run,wf,e2,e3,e4⟩:=aD.azx zD (l2.take 20);have hlen:l.length<=9223372036854775807:=h.2.1;refine⟨run,by rw[dN] at e3;omega,fun s hs=> ?_,?_⟩
 ·obtain⟨k',_,hS⟩:=e4 s hs;exact⟨hS.ev,fun a ha=>(hS.asks a ha).1,hS.Cx,hS.Uv⟩
 ·have hA:=Ab.aCK (l:=l) (l2:=l2) hi hlen rL e1 e2;refine(hA (fun _=>False) w [.slice k l.length c,.slice k2 l2.length c2] ⟨fun b hb=>hb.elim,Ab.NI hg⟩ rfl (fun i x v hx hv=> ?_)).mono ?_
  ·match i,hx,hv with
   |0,hx,hv=>
    simp only[ye,aA] at hx hv;subst hx hv;exact acq h hc
   |1,hx,hv=>
    simp only[Gm,ye,aA] at hx hv;subst hx hv;exact acq h2 dW
   |i+2,hx,hv=>simp at hx
  ·rintro e w' ⟨v,r,rfl,rfl,hV,hF⟩;exact⟨v,rfl,Ab.ajE (show Ab.IR w' (fun _=>False) (Ab.CU run) v from Ab.CR.ir (S:=fun _=> .dead 0) (G:=fun _=>Ab.gh 0) (H:=fun _=>undef) hV.2 rfl),Ab.Fr.below hF⟩
end
section
open Go.RowKit
section
variable {ops:Array Oper} {Q:Exit->Act->World->Prop} {rest:List Oper} {o:Oper} {a:Act} {w:World}
end
variable {a:Option Addr} {c i:Nat} {w:World}
theorem fH.range{n:Nat}{l:List az}(h:fH w (.slice a n c) l){s:az}(hi:l[i]? =some s):
  ∃b o va km nm cm,a=some ⟨b,o,none⟩/\jO w va s.asks/\w.rangeAt b (o+i*11) [I s.ev.kind,I s.ev.node,I s.ev.arg,I s.ev.msg.node,I s.ev.msg.handler,I s.ev.msg.count,I s.ev.msg.index,I s.ev.msg.copy,va,.bool s.aK,.slice km nm cm]:=by
 obtain⟨xs,h1,h2⟩:=h;obtain⟨va,vs,g1,g2,g3⟩:=h1.at hi;obtain⟨km,cm,rfl,_⟩:=g2.open;have hlt:=(bN.1 hi).1;obtain⟨b,o,ha,hc⟩:=h2.cells (by rw[h1.length];omega);refine⟨b,o,va,km,s.sent.length,cm,ha,g1,fun j u hu=> ?_⟩;have:=hc _ u (g3 j u hu);rwa[<-Nat.add_assoc] at this
theorem jO.range{n:Nat}{l:List Ask}(h:jO w (.slice a n c) l){x:Ask}(hi:l[i]? =some x):
  ∃b o,a=some ⟨b,o,none⟩/\w.rangeAt b (o+i*7) [I x.node,I x.handler,I x.count,I x.kind,I x.index,I x.arity,I x.n]:=by
 obtain⟨b,o,ha,hc⟩:=BW Ask.Ko ab h hi;exact⟨b,o,ha,fun j v hv=>hc j v hv⟩
end
section
open Go.RowKit Go.ChangeShapes Go.WideShapes Go.Joins Go.Deep
section
variable {H:Type} {enc:TypeId×Value->H} {w:World} {base:Nat} {held:Bool}
theorem br.aCL {w:World}{a:Addr}{len cap:Nat}{zs:List Int}(h1:len<=cap)(h2:cap<=maxLen)(h3:zs.length=cap)(h4:∀i,i<zs.length->w.cell? (a.add i)=some (.int .i64 (zs.getD i 0)))(h5:∀n∈zs,(Lit.int .i64 n).wf=true):
  ∃l:List Int,l.length=len/\br w (.slice (some a) len cap) l/\∀x∈l,cJ x:=by
 obtain⟨l,hl,hi⟩:=axG (w:=w) (a:=some a) (len:=len) (cap:=cap) (zs:=zs) (.inr ⟨a,rfl,h1,h2,h3,h4,h5⟩);obtain⟨k,c,e,_⟩:=hl.open;simp at e;exact⟨l,e.2.1.symm,hl,hi⟩
theorem aCM {fuel:Nat}{cs:List Value}{x:DataW H×List MemPlace}(hf:DataW.trod enc Tryz.prog w base (fun _=>true) held fuel 22 cs=some x):
  ∃(k:Option Addr) (c:Nat) (l:List Int),cs=[.slice k l.length c]/\br w (.slice k l.length c) l/\l.length<=c/\∀n∈l,cJ n:=by
 rcases open_ints Tryz.underlying22 Tryz.underlying3 ah hf with⟨rfl,_⟩|⟨a,len,c,zs,rfl,_,hl,hm,hz,_,hcell,jo⟩
 ·exact⟨none,0,[],rfl,Flat.nil _ _ _ _,cP _,fun n hn=>by simp at hn⟩
 ·obtain⟨l,rfl,h,hi⟩:=br.aCL hl hm (by simpa using hz) hcell jo;exact⟨some a,c,l,rfl,h,hl,hi⟩
theorem FP {r:Reach}{b0:Nat}{v:Value}{d:DataW H}{p:List MemPlace}(hv:Value.okWide Tryz.prog w r b0 22 v)(h:DataW.Trod enc Tryz.prog w base (fun _=>true) held 22 v d p):
  ∃(k:Option Addr) (c:Nat) (l:List Int),v=.slice k l.length c/\br w (.slice k l.length c) l/\l.length<=c/\∀n∈l,cJ n:=by
 obtain⟨a,len,cap,rfl⟩:=okWide_slice Tryz.underlying22 hv;obtain⟨fuel,hf⟩:=h;obtain⟨k,c,l,e,h1,h2,h3⟩:=aCM hf;simp[Value.cells] at e;obtain⟨rfl,rfl,rfl⟩:=e;exact⟨_,_,l,rfl,h1,h2,h3⟩
def acs (w:World)(v:Value)(m:List (List Int)):Prop:=∃(a:Option Addr) (c:Nat),v=.slice a m.length c/\m.length<=9223372036854775807/\∀i l,m[i]? =some l->∃b o k c',a=some ⟨b,o,none⟩/\w.cell? ⟨b,o+i,none⟩=some (.slice k l.length c')/\br w (.slice k l.length c') l/\l.length<=c'/\∀n∈l,cJ n
theorem acs.kept {w w':World}{v:Value}{m:List (List Int)}(h:acs w v m){B:Nat}(hb:Below B w w')(hB:w.heap.size<=B):acs w' v m:=by
 obtain⟨a,c,rfl,hm,hr⟩:=h;refine⟨a,c,rfl,hm,fun i l hi=> ?_⟩;obtain⟨b,o,k,c',e,h0,h1,h2,h3⟩:=hr i l hi;have hlt:=ez _ _ h0;exact⟨b,o,k,c',e,by rw[hb.cell (p:=⟨b,o+i,none⟩) (by simp at hlt⊢;omega)];exact h0,h1.kept hb hB,h2,h3⟩
end
end
end Go.Proofs.YtkanpepkdcmpmaaGreatDoor
