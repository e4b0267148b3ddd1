import Derived.Test.YtkanpepkdcmpmaaGreatDoorY40
import Derived.Test.YtkanpepkdcmpmaaGreatDoorY33
import Derived.Lib.SmallJoins
import Derived.Deep.Slices
import Derived.Deep.Matrix
set_option maxHeartbeats 40000000
set_option maxRecDepth 100000
set_option linter.all false
namespace Go.Proofs.YtkanpepkdcmpmaaGreatDoor
section
open Go Go.RowKit
theorem ach {w:World}{l:List Int}{k:Option Addr}{c:Nat}(h:br w (.slice k l.length c) l)(hc:l.length<=c):Ab.WI w (fun _=>False) (.c (Ab.ints l)) (.slice k l.length c):=
 ⟨rfl,(Ab.ayz h hc).tF (S:=fun _=> .dead 0) (G:=fun _=>Ab.gh 0) (H:=fun _=>undef)⟩
def ME (s:ay):Prop:=sQ s.ev/\(∀a∈s.asks,zo a)/\s.asks.length<=4/\s.sent.length<=500
theorem aci {l l2:List Int}{k k2:Option Addr}{c c2:Nat}{w:World}(h:br w (.slice k l.length c) l)(hc:l.length<=c)(hi:∀x∈l,bY x)(h2:br w (.slice k2 l2.length c2) l2)(dS:l2.length<=c2)(rA:∀x∈l2,bY x)(hg:Gl w):
  ∃run:List ay,run.length<=20/\(∀s∈run,ME s)/\Calls Tryz.prog 7 #[.slice k l.length c,.slice k2 l2.length c2] w fun e w'=>∃u,e=.returned u/\fw w' u run/\aw w w':=by
 obtain⟨cf,e1,zB⟩:=aD.abk l;obtain⟨run,wf,e2,e3,e4⟩:=aD.azp zB (l2.take 20);have hlen:l.length<=9223372036854775807:=h.2.1;refine⟨run,by rw[dN] at e3;omega,fun s hs=> ?_,?_⟩
 ·obtain⟨k',_,hS⟩:=e4 s hs;exact⟨hS.ev,fun a ha=>(hS.asks a ha).1,hS.Co,hS.Un⟩
 ·have hA:=Ab.aCE (l:=l) (l2:=l2) hi hlen rA e1 e2;refine(hA (fun _=>False) w [.slice k l.length c,.slice k2 l2.length c2] ⟨fun b hb=>hb.elim,Ab.Kv hg⟩ rfl (fun i x v hx hv=> ?_)).mono ?_
  ·match i,hx,hv with
   |0,hx,hv=>
    simp only[wG,aA] at hx hv;subst hx hv;exact ach h hc
   |1,hx,hv=>
    simp only[FW,wG,aA] at hx hv;subst hx hv;exact ach h2 dS
   |i+2,hx,hv=>simp at hx
  ·rintro e w' ⟨v,r,rfl,rfl,hV,hF⟩;exact⟨v,rfl,Ab.aju (show Ab.IR w' (fun _=>False) (Ab.CK run) v from Ab.CR.ir (S:=fun _=> .dead 0) (G:=fun _=>Ab.gh 0) (H:=fun _=>undef) hV.2 rfl),Ab.Fr.below hF⟩
end
section
open Go.RowKit
section
variable {ops:Array Oper} {Q:Exit->Act->World->Prop} {rest:List Oper} {o:Oper} {a:Act} {w:World}
end
variable {a:Option Addr} {c i:Nat} {w:World}
theorem fw.range{n:Nat}{l:List ay}(h:fw w (.slice a n c) l){s:ay}(hi:l[i]? =some s):
  ∃b o va km nm cm,a=some ⟨b,o,none⟩/\jG w va s.asks/\w.rangeAt b (o+i*11) [I s.ev.kind,I s.ev.node,I s.ev.arg,I s.ev.msg.node,I s.ev.msg.handler,I s.ev.msg.count,I s.ev.msg.index,I s.ev.msg.copy,va,.bool s.aJ,.slice km nm cm]:=by
 obtain⟨xs,h1,h2⟩:=h;obtain⟨va,vs,g1,g2,g3⟩:=h1.at hi;obtain⟨km,cm,rfl,_⟩:=g2.open;have hlt:=(bK.1 hi).1;obtain⟨b,o,ha,hc⟩:=h2.cells (by rw[h1.length];omega);refine⟨b,o,va,km,s.sent.length,cm,ha,g1,fun j u hu=> ?_⟩;have:=hc _ u (g3 j u hu);rwa[<-Nat.add_assoc] at this
theorem jG.range{n:Nat}{l:List Ask}(h:jG w (.slice a n c) l){x:Ask}(hi:l[i]? =some x):
  ∃b o,a=some ⟨b,o,none⟩/\w.rangeAt b (o+i*7) [I x.node,I x.handler,I x.count,I x.kind,I x.index,I x.arity,I x.n]:=by
 obtain⟨b,o,ha,hc⟩:=BN Ask.Ki ab h hi;exact⟨b,o,ha,fun j v hv=>hc j v hv⟩
end
section
open Go.RowKit Go.ChangeShapes Go.WideShapes Go.Joins Go.Deep
section
variable {H:Type} {enc:TypeId×Value->H} {w:World} {base:Nat} {held:Bool}
theorem br.aCF {w:World}{a:Addr}{len cap:Nat}{zs:List Int}(h1:len<=cap)(h2:cap<=maxLen)(h3:zs.length=cap)(h4:∀i,i<zs.length->w.cell? (a.add i)=some (.int .i64 (zs.getD i 0)))(h5:∀n∈zs,(Lit.int .i64 n).wf=true):
  ∃l:List Int,l.length=len/\br w (.slice (some a) len cap) l/\∀x∈l,bY x:=by
 obtain⟨l,hl,hi⟩:=axz (w:=w) (a:=some a) (len:=len) (cap:=cap) (zs:=zs) (.inr ⟨a,rfl,h1,h2,h3,h4,h5⟩);obtain⟨k,c,e,_⟩:=hl.open;simp at e;exact⟨l,e.2.1.symm,hl,hi⟩
theorem aCG {fuel:Nat}{cs:List Value}{x:DataW H×List MemPlace}(hf:DataW.trod enc Tryz.prog w base (fun _=>true) held fuel 22 cs=some x):
  ∃(k:Option Addr) (c:Nat) (l:List Int),cs=[.slice k l.length c]/\br w (.slice k l.length c) l/\l.length<=c/\∀n∈l,bY n:=by
 rcases open_ints Tryz.underlying22 Tryz.underlying3 ah hf with⟨rfl,_⟩|⟨a,len,c,zs,rfl,_,hl,hm,hz,_,hcell,jZ⟩
 ·exact⟨none,0,[],rfl,Flat.nil _ _ _ _,cK _,fun n hn=>by simp at hn⟩
 ·obtain⟨l,rfl,h,hi⟩:=br.aCF hl hm (by simpa using hz) hcell jZ;exact⟨some a,c,l,rfl,h,hl,hi⟩
theorem FA {r:Reach}{b0:Nat}{v:Value}{d:DataW H}{p:List MemPlace}(hv:Value.okWide Tryz.prog w r b0 22 v)(h:DataW.Trod enc Tryz.prog w base (fun _=>true) held 22 v d p):
  ∃(k:Option Addr) (c:Nat) (l:List Int),v=.slice k l.length c/\br w (.slice k l.length c) l/\l.length<=c/\∀n∈l,bY n:=by
 obtain⟨a,len,cap,rfl⟩:=okWide_slice Tryz.underlying22 hv;obtain⟨fuel,hf⟩:=h;obtain⟨k,c,l,e,h1,h2,h3⟩:=aCG hf;simp[Value.cells] at e;obtain⟨rfl,rfl,rfl⟩:=e;exact⟨_,_,l,rfl,h1,h2,h3⟩
def acj (w:World)(v:Value)(m:List (List Int)):Prop:=∃(a:Option Addr) (c:Nat),v=.slice a m.length c/\m.length<=9223372036854775807/\∀i l,m[i]? =some l->∃b o k c',a=some ⟨b,o,none⟩/\w.cell? ⟨b,o+i,none⟩=some (.slice k l.length c')/\br w (.slice k l.length c') l/\l.length<=c'/\∀n∈l,bY n
theorem acj.kept {w w':World}{v:Value}{m:List (List Int)}(h:acj w v m){B:Nat}(hb:Below B w w')(hB:w.heap.size<=B):acj w' v m:=by
 obtain⟨a,c,rfl,hm,hr⟩:=h;refine⟨a,c,rfl,hm,fun i l hi=> ?_⟩;obtain⟨b,o,k,c',e,h0,h1,h2,h3⟩:=hr i l hi;have hlt:=iT _ _ h0;exact⟨b,o,k,c',e,by rw[hb.cell (p:=⟨b,o+i,none⟩) (by simp at hlt⊢;omega)];exact h0,h1.kept hb hB,h2,h3⟩
end
end
end Go.Proofs.YtkanpepkdcmpmaaGreatDoor
