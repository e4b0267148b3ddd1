import Derived.Test.YtkanpepkdcmpmaaGreatDoorY41
set_option maxHeartbeats 40000000
set_option maxRecDepth 100000
set_option linter.all false
namespace Go.Proofs.YtkanpepkdcmpmaaGreatDoor
section
open Go.RowKit
theorem acr (n:Nat):(Lib.decDigits n).length<=n+1:=by
 induction n using Nat.strongRecOn with
 |_ n ih=>
  by_cases h:n<10
  ·rw[Lib.decDigits_one h];simp
  ·rw[Lh n h,List.length_append];have:=ih (n/10) ab;simp;omega
end
section
open Go.RowKit
theorem aCS (d:Nat)(h:d<10):(⟨#[48,49,50,51,52,53,54,55,56,57]⟩:ByteArray).extract d (d+1)=⟨([UInt8.ofNat (48+d)]:aj).toArray⟩:=by
 have key:∀x:Fin 10,(⟨#[48,49,50,51,52,53,54,55,56,57]⟩:ByteArray).extract x.val (x.val+1)=⟨([UInt8.ofNat (48+x.val)]:aj).toArray⟩:=by decide+kernel
 exact key ⟨d,h⟩
def JI (k:Nat):aj:=if k=0 then [] else Lib.decDigits k
theorem aCT (k:Nat)(h:k≠0):JI k=JI (k/10)++[UInt8.ofNat (48+k%10)]:=by
 unfold JI;rw[af h];by_cases h10:k<10
 ·rw[Lib.decDigits_one h10,aq ab,Nat.mod_eq_of_lt h10];rfl
 ·rw[Lh k h10,af ab]
theorem Bp (n:Nat)(hn:n<=4611686018427387904)(w:World):Calls Tryz.prog 16 #[I n] w fun e w'=>e=.returned (sv (Lib.decDigits n))/\w=w':=by
 by_cases h0:n=0
 ·subst h0;go_enter Tryz.func16,Tryz.ntmps16;go_wp2;go_ret;exact⟨by rw[Lib.decDigits_one ab];rfl,rfl⟩
 ·have Cw:¬(n:Int)=0:=ab;have fE:((n:Int)==0)=false:=mE.2 Cw;have H0:=ae (show Lib.decDigits n=JI n by unfold JI;rw[af h0])
  obtain⟨T,hT⟩:∃T,T=Lib.decDigits n:=⟨_,rfl⟩
  rw[<-hT] at H0⊢
  have MA:T.length<=9223372036854775807:=by rw[hT];have:=acr n;omega
  have HT:=ae (show T.length<=n+1 by rw[hT];exact acr n);clear hT h0;unfold sv;go_enter Tryz.func16,Tryz.ntmps16;go_wp2;go_loop [4,5] (fun vs vk=>∃(k:Nat) (s:aj),vs=.string ⟨s.toArray⟩/\vk=.int .i64 k/\k<=n/\Hid (T=JI k++s)) (fun _ vk=>(intOf vk).toNat)
  case atStart=>exact⟨n,[],rfl,rfl,cK _,ae (by rw[H0.out];simp)⟩
  case round=>
   obtain⟨k,s,rfl,rfl,hk,H⟩:=hrel;by_cases hz:k=0
   ·subst hz;have HF:=ae (show T=s by rw[H.out];rfl);have RD:¬(n:Int)<0:=ab;clear H;go_wp2;go_ret;exact⟨by rw[HF.out];rfl,rfl⟩
   ·have Iv:¬(k:Int)=0:=ab
    have hb:((k:Int) !=0)=true:=by rw[bne_iff_ne];exact Iv
    have hm:(k:Int).tmod 10=((k%10:Nat):Int):=by rw[Int.tmod_eq_emod_of_nonneg ab];omega
    have hd:(k:Int).tdiv 10=((k/10:Nat):Int):=by rw[Wn ab];omega
    have H2:=ae (show T=JI (k/10)++(UInt8.ofNat (48+k%10)::s) by rw[H.out,aCT k hz];simp)
    have cq:s.length+1<=9223372036854775807:=by
     have h1:=aG List.length H2.out;simp only[List.length_append,List.length_cons] at h1;omega
    have Ez:=aCS (k%10) ab;have SR:k%10<10:=ab;have aCU:k/10<k:=ab;clear hz H;generalize UInt8.ofNat (48+k%10)=c at Ez H2;generalize k%10=d at hm Ez SR;generalize hq:k/10=q at hd H2 aCU;go_wp2;refine⟨⟨q,c::s,?_,rfl,ab,H2⟩,by simp[intOf];omega⟩;exact aG Value.string (cH [c] s)
end
section
open Go.RowKit
theorem Qu (n:Int)(w:World):Calls Tryz.prog 96 #[I n] w fun e w'=>e=.returned (.bool (ou n))/\w=w':=by
 by_cases h1:0<=n
 ·go_enter Tryz.func96,Tryz.ntmps96;go_wp2;go_ret;exact⟨by simp[ou,h1],rfl⟩
 ·go_enter Tryz.func96,Tryz.ntmps96;go_wp2;go_ret;exact⟨by simp[ou];omega,rfl⟩
theorem amw (a b c h:Int)(w:World):Calls Tryz.prog 97 #[.agg #[I a,I b,I c],I h] w fun e w'=>e=.returned (.bool (uo a b c h))/\aw w w':=by
 have hB:aw w (w.alloc (.cells #[I a,I b,I c] 37)):=(Below.refl _ _).alloc ax _;have Hn:=ae (Qu c);by_cases h1:0<=a
 ·by_cases h2:a<12
  ·by_cases h3:0<=b
   ·by_cases h4:b<h
    ·go_enter Tryz.func97,Tryz.ntmps97
     go_wp2_with (go_at_call 96;refine(Hn.out _).mono ?_;rintro e w1 ⟨rfl,rfl⟩)
     go_ret;exact⟨by simp[uo,h1,h2,h3,h4],hB⟩
    ·go_enter Tryz.func97,Tryz.ntmps97;go_wp2_with fail;go_ret;exact⟨by simp[uo];intros;omega,hB⟩
   ·go_enter Tryz.func97,Tryz.ntmps97;go_wp2_with fail;go_ret;exact⟨by simp[uo];intros;omega,hB⟩
  ·go_enter Tryz.func97,Tryz.ntmps97;go_wp2_with fail;go_ret;exact⟨by simp[uo];intros;omega,hB⟩
 ·go_enter Tryz.func97,Tryz.ntmps97;go_wp2_with fail;go_ret;exact⟨by simp[uo];intros;omega,hB⟩
theorem aCV (a0 a1 a2 a3 a4:Int)(w:World):(binOp .eql 39 (.agg #[I a0,I a1,I a2,I a3,I a4]) (.agg #[I 0,I 0,I 0,I 0,I 0])).run Tryz.prog w=.ok (.bool (cS [a0,a1,a2,a3,a4] [0,0,0,0,0])) w:=adL a0 a1 a2 a3 a4 0 0 0 0 0 w
theorem amx (e:Ev)(w:World):Calls Tryz.prog 46 #[.agg (iH e)] w fun r w'=>r=.returned (.bool (oX e))/\aw w w':=by
 obtain⟨kind,node,arg,⟨m0,m1,m2,m3,m4⟩⟩:=e;have hB:aw w (w.alloc (.cells #[I kind,I node,I arg,I m0,I m1,I m2,I m3,I m4] 41)):=(Below.refl _ _).alloc ax _;have HB:=ae hB;clear hB;have Hn:=ae Qu;have Hc:=ae amw
 have hz:=fun w=>aCV m0 m1 m2 m3 m4 w
 unfold iH;simp only[]
 obtain⟨z,Ca⟩:∃z,z=cS [m0,m1,m2,m3,m4] [0,0,0,0,0]:=⟨_,rfl⟩
 have Hz:=ae (show(⟨m0,m1,m2,m3,m4⟩:bQ).zero=z by rw[Ca];rfl);rw[<-Ca] at hz;clear Ca;by_cases h1:node<0
 ·go_enter Tryz.func46,Tryz.ntmps46;go_wp2_with fail;go_ret;exact⟨by simp[oX,h1],HB.out⟩
 ·by_cases h2:11<node
  ·go_enter Tryz.func46,Tryz.ntmps46;go_wp2_with fail;go_ret;exact⟨by simp[oX,h2],HB.out⟩
  ·by_cases hA:kind=1\/kind=2\/kind=4
   ·have HW:=ae (show oX ⟨kind,node,arg,⟨m0,m1,m2,m3,m4⟩⟩=(ou arg && z) by rw[<-Hz.out];simp[oX,h1,h2,hA])
    cases MG:ou arg with
    |false=>
     have IX:=ae (fun X=>MG▸Qu arg X);rw[HW.out,MG];clear MG HW
     rcases hA with rfl|rfl|rfl
     all_goals (go_enter Tryz.func46,Tryz.ntmps46)
     all_goals (go_wp2_with (go_at_call 96;refine(IX.out _).mono ?_;rintro e w1 ⟨rfl,rfl⟩))
     all_goals go_ret
     all_goals exact⟨rfl,HB.out⟩
    |true=>
     have IX:=ae (fun X=>MG▸Qu arg X);rw[HW.out,MG];clear MG HW
     rcases hA with rfl|rfl|rfl
     all_goals (go_enter Tryz.func46,Tryz.ntmps46)
     all_goals (go_wp2_with (go_at_call 96;refine(IX.out _).mono ?_;rintro e w1 ⟨rfl,rfl⟩))
     all_goals go_ret
     all_goals exact⟨ai,HB.out⟩
   ·by_cases hM:kind=3\/kind=5\/kind=6
    ·have HW:=ae (show oX ⟨kind,node,arg,⟨m0,m1,m2,m3,m4⟩⟩=(decide (arg=0) && uo m0 m1 m2 40 && ou m3 && ou m4) by simp[oX,h1,h2,hA,hM])
     obtain⟨r,hr⟩:∃r,r=oX ⟨kind,node,arg,⟨m0,m1,m2,m3,m4⟩⟩:=⟨_,rfl⟩
     rw[<-hr] at HW⊢;clear hr;have Vp:=ae (Hc.out m0 m1 m2 40);generalize uo m0 m1 m2 40=C at Vp HW;have Hx:=ae (show∀X,Below (w.alloc (.cells #[I kind,I node,I arg,I m0,I m1,I m2,I m3,I m4] 41)).heap.size (w.alloc (.cells #[I kind,I node,I arg,I m0,I m1,I m2,I m3,I m4] 41)) X->X.cell? ⟨w.heap.size,6,none⟩=some (I m3)/\X.cell? ⟨w.heap.size,7,none⟩=some (I m4) from fun X hX=>⟨((az.new w _ _).kept hX (az.new w _ _).lt).cell 6,((az.new w _ _).kept hX (az.new w _ _).lt).cell 7⟩);by_cases h0:arg=0
     ·subst h0
      cases C with
      |true=>
       cases hX:ou m3 with
       |true=>
        have HF:=ae (show r=ou m4 by rw[HW.out,hX];simp)
        rcases hM with rfl|rfl|rfl
        all_goals (go_enter Tryz.func46,Tryz.ntmps46)
        all_goals (go_wp2_with (first|(go_at_call 97;refine(Vp.out _).mono ?_;rintro e w1 ⟨rfl,D⟩;have cx:=(Hx.out _ D).1;have cy:=(Hx.out _ D).2;replace D:=ae D)|(go_at_call 96;refine(Hn.out _ _).mono ?_;rintro e w2 ⟨rfl,rfl⟩)))
        all_goals go_ret
        all_goals exact⟨by rw[HF.out];rfl,HB.out.trans (D.out.mono HB.out.size)⟩
       |false=>
        have HF:=ae (show r=false by rw[HW.out,hX];simp)
        rcases hM with rfl|rfl|rfl
        all_goals (go_enter Tryz.func46,Tryz.ntmps46)
        all_goals (go_wp2_with (first|(go_at_call 97;refine(Vp.out _).mono ?_;rintro e w1 ⟨rfl,D⟩;have cx:=(Hx.out _ D).1;have cy:=(Hx.out _ D).2;replace D:=ae D)|(go_at_call 96;refine(Hn.out _ _).mono ?_;rintro e w2 ⟨rfl,rfl⟩)))
        all_goals go_ret
        all_goals exact⟨by rw[HF.out];rfl,HB.out.trans (D.out.mono HB.out.size)⟩
      |false=>
       have HF:=ae (show r=false by rw[HW.out];simp)
       rcases hM with rfl|rfl|rfl
       all_goals (go_enter Tryz.func46,Tryz.ntmps46)
       all_goals (go_wp2_with (go_at_call 97;refine(Vp.out _).mono ?_;rintro e w1 ⟨rfl,D⟩))
       all_goals go_ret
       all_goals exact⟨by rw[HF.out];rfl,HB.out.trans (D.mono HB.out.size)⟩
     ·have fE:(arg==0)=false:=mE.2 h0;have HF:=ae (show r=false by rw[HW.out];simp[h0])
      rcases hM with rfl|rfl|rfl
      all_goals (go_enter Tryz.func46,Tryz.ntmps46)
      all_goals (go_wp2_with fail)
      all_goals go_ret
      all_goals exact⟨by rw[HF.out];rfl,HB.out⟩
    ·by_cases h7:kind=7
     ·subst h7;have HW:=ae (show oX ⟨7,node,arg,⟨m0,m1,m2,m3,m4⟩⟩=(decide (arg=0) && z) by rw[<-Hz.out];simp[oX,h1,h2]);by_cases h0:arg=0
      ·subst h0;rw[HW.out];go_enter Tryz.func46,Tryz.ntmps46;go_wp2_with fail;go_ret;exact⟨ai,HB.out⟩
      ·have fE:(arg==0)=false:=mE.2 h0;rw[HW.out];go_enter Tryz.func46,Tryz.ntmps46;go_wp2_with fail;go_ret;exact⟨ai,HB.out⟩
     ·have HF:=ae (show oX ⟨kind,node,arg,⟨m0,m1,m2,m3,m4⟩⟩=false by simp[oX,h1,h2,hA,hM,h7]);rw[HF.out];have k1:(kind==1)=false:=mE.2 (fun e=>hA (.inl e));have k2:(kind==2)=false:=mE.2 (fun e=>hA (.inr (.inl e)));have k4:(kind==4)=false:=mE.2 (fun e=>hA (.inr (.inr e)));have k3:(kind==3)=false:=mE.2 (fun e=>hM (.inl e));have k5:(kind==5)=false:=mE.2 (fun e=>hM (.inr (.inl e)));have k6:(kind==6)=false:=mE.2 (fun e=>hM (.inr (.inr e)));have k7:(kind==7)=false:=mE.2 h7;clear hA hM h7;go_enter Tryz.func46,Tryz.ntmps46;go_wp2_with fail;go_ret;exact⟨rfl,HB.out⟩
theorem aCW (l:List Int)(n:Int):iI (l++[n])=(if l=[] then [] else iI l++[46])++Lib.decDigits n.toNat:=by
 induction l with
 |nil=>simp[iI]
 |cons a l ih=>
  cases l with
  |nil=>simp[iI]
  |cons b l=>
   simp only[List.cons_append,iI] at ih⊢;rw[ih];simp
end
section
open Go.RowKit
theorem aCX {l:List Int}{k:Nat}(h:k<l.length):iI (l.take (k+1))=(if k=0 then [] else iI (l.take k)++[46])++Lib.decDigits l[k].toNat:=by
 rw[List.take_succ_eq_append_getElem h,aCW];by_cases h0:k=0
 ·subst h0;simp
 ·have hne:l.take k≠[]:=by
   intro e;have:=aG List.length e;simp at this
   rcases this with rfl|rfl
   ·exact h0 rfl
   ·simp at h
  rw[af hne,af h0]
theorem amy (l:List Int)(hr:∀x∈l,0<=x/\x<=2147483647)(hn:l.length<=100)(v:Value)(w:World)(h:br w v l):Calls Tryz.prog 47 #[v] w fun e w'=>e=.returned (sv (iI l))/\w=w':=by
 obtain⟨a,c,rfl,hm⟩:=h.open;have Hr:=ae hr;have H:=ae h;clear h hr
 obtain⟨T,hT⟩:∃T,T=iI l:=⟨_,rfl⟩
 have HT:=ae hT;rw[<-hT];clear hT;unfold sv;go_enter Tryz.func47,Tryz.ntmps47;go_wp2;go_loop [3,4] (fun vs vi=>∃(k:Nat) (s:aj),vs=.string ⟨s.toArray⟩/\vi=.int .i64 k/\k<=l.length/\s.length<=12*k/\Hid (s=iI (l.take k))) (fun _ vi=>l.length-(intOf vi).toNat)
 case atStart=>exact⟨0,[],rfl,rfl,ab,ai,ae (by simp[iI])⟩
 case round=>
  obtain⟨k,s,rfl,rfl,hk,hs,Hs⟩:=hrel;by_cases hlt:k<l.length
  ·obtain⟨b,o,rfl,x0⟩:=br.at H.out (i:=k) (x:=l[k]) (by simp[hlt]);have iw:=Hr.out l[k] (bP hlt);have HS:=ae (aCX hlt)
   obtain⟨n,wY⟩:∃n:Nat,l[k]=n:=⟨l[k].toNat,ab⟩
   rw[wY] at x0 iw HS;have aCY:n<=2147483647:=ab;have hd:(Lib.decDigits n).length<=10:=decl n aCY;have Hd:=ae (Bp n ab w);rw[fJ] at HS;clear wY;generalize Lib.decDigits n=t at hd Hd HS;unfold sv at Hd;by_cases h0:k=0
   ·subst h0;rw[qm] at x0
    have vN:s=[]:=by rw[Hs.out];simp[iI]
    subst vN;have HF:=ae (show t=iI (l.take (0+1)) by rw[HS.out];simp);have fO:¬9223372036854775807<t.length:=ab;clear HS
    go_wp2_with (go_at_call 16;refine Hd.out.mono ?_;rintro e w1 ⟨rfl,rfl⟩)
    go_round
    case rel=>exact⟨1,t,aG Value.string (cH [] t),by go_num,ab,ab,HF⟩
    case measure=>simp[intOf];omega
   ·have HF:=ae (show(s++[46])++t=iI (l.take (k+1)) by rw[HS.out,af h0,Hs.out]);have cF:¬9223372036854775807<s.length+1:=ab;have fO:¬9223372036854775807<s.length+1+t.length:=ab;have xp:s.length+1+t.length<=12*(k+1):=ab;have aY:(0:Int)<k:=ab;clear HS
    go_wp2_with (go_at_call 16;refine Hd.out.mono ?_;rintro e w1 ⟨rfl,rfl⟩)
    go_round
    case rel=>exact⟨k+1,(s++[46])++t,aG Value.string ((aG (·++_) (cH s [46])).trans (cH (s++[46]) t)),by go_num,ab,by simp;omega,HF⟩
    case measure=>simp[intOf];omega
  ·obtain rfl:k=l.length:=ab;have HF:=ae (show T=s by rw[HT.out,Hs.out,fK]);go_wp2;go_ret;exact⟨by rw[HF.out];rfl,rfl⟩
theorem aCZ (m:bQ)(w:World):Calls Tryz.prog 48 #[.agg #[I m.node,I m.handler,I m.count,I m.index,I m.copy]] w fun e w'=>(∃v,e=.returned v/\br w' v m.ints)/\aw w w':=by
 obtain⟨m0,m1,m2,m3,m4⟩:=m;have hB:aw w ((w.alloc (.cells #[I m0,I m1,I m2,I m3,I m4] 39)).alloc (.cells #[I m0,I m1,I m2,I m3,I m4] 3)):=((Below.refl _ _).alloc ax _).alloc ai _;have HB:=ae hB
 have hx:br ((w.alloc (.cells #[I m0,I m1,I m2,I m3,I m4] 39)).alloc (.cells #[I m0,I m1,I m2,I m3,I m4] 3)) (.slice (some ⟨w.heap.size+1,0,none⟩) 5 5) [m0,m1,m2,m3,m4]:=by
  have hb:=az.new (w.alloc (.cells #[I m0,I m1,I m2,I m3,I m4] 39)) #[I m0,I m1,I m2,I m3,I m4] 3;rw[World.size_alloc] at hb;exact Flat.wN rfl ai (fun j u hu=>by rw[fu,hb.cell j];simpa [iv] using hu)
 have HX:=ae hx;clear hB hx;dsimp only;go_enter Tryz.func48,Tryz.ntmps48;go_wp2;go_ret;exact⟨⟨_,rfl,HX.out⟩,HB.out⟩
end
section
open Go.RowKit
def zC:Array Value:=#[sv [],sv [115,116,97,114,116],sv [105,110,118,111,107,101],sv [100,101,108,105,118,101,114],sv [116,105,109,101,114],sv [100,114,111,112],sv [100,117,112],sv [99,114,97,115,104]]
theorem aDa (k:Nat)(h:k<8):zC[k]? =some (sv (dL.getD k [])):=by
 rcases(show k=0\/k=1\/k=2\/k=3\/k=4\/k=5\/k=6\/k=7 by omega) with rfl|rfl|rfl|rfl|rfl|rfl|rfl|rfl
 all_goals rfl
theorem acs:∀(l:List Int),(∀x∈l,0<=x/\x<=2147483647)->(iI l).length<=12*l.length
 |[],_=>by simp[iI]
 |[n],h=>by
  have:=decl n.toNat (by have:=h n ai;omega);simp[iI];omega
 |n::m::l,h=>by
  have:=decl n.toNat (by have:=h n ai;omega);have:=acs (m::l) (fun x hx=>h x (by simp at hx⊢;exact .inr hx));simp[iI] at this⊢;omega
theorem amz (e:Ev)(w:World):Calls Tryz.prog 17 #[.agg (iH e)] w fun r w'=>r=.returned (sv (ei e))/\aw w w':=by
 cases sZ:oX e with
 |false=>
  have Hw:=ae (fun X=>sZ▸amx e X);have HF:=ae (show ei e=[] by unfold ei;rw[sZ];rfl);rw[HF.out];clear sZ HF;obtain⟨kind,node,arg,⟨m0,m1,m2,m3,m4⟩⟩:=e;have hB:aw w (w.alloc (.cells #[I kind,I node,I arg,I m0,I m1,I m2,I m3,I m4] 41)):=(Below.refl _ _).alloc ax _;have HB:=ae hB;clear hB;unfold iH at*;dsimp only at*;go_enter Tryz.func17,Tryz.ntmps17
  go_wp2_with (go_at_call 46;refine(Hw.out _).mono ?_;rintro r w1 ⟨rfl,D⟩)
  go_ret;exact⟨rfl,HB.out.trans (D.mono HB.out.size)⟩
 |true=>
  have Hw:=ae (fun X=>sZ▸amx e X);have bU:=(Fk e).1 sZ;have HF:=ae (show ei e=CV e by unfold ei;rw[aq sZ]);rw[HF.out];clear sZ HF;obtain⟨kind,node,arg,⟨m0,m1,m2,m3,m4⟩⟩:=e
  have hk:1<=kind/\kind<=7:=by obtain⟨_,_,h⟩:=bU;dsimp only at h;omega
  obtain⟨k,rfl⟩:∃k:Nat,kind=k:=⟨kind.toNat,ab⟩
  obtain⟨nd,rfl⟩:∃n:Nat,node=n:=⟨node.toNat,by have:=bU.1;dsimp only at this;omega⟩
  have cP:nd<=11:=by have:=bU.2.1;dsimp only at this;omega
  have yM:k<8:=ab;have xG:=ae bU;clear bU
  obtain⟨word,Di⟩:∃x,x=dL.getD k []:=⟨_,rfl⟩
  have vO:word.length<=7:=by rw[Di];exact akl k
  have jd:=ae (Di▸aDa k yM)
  obtain⟨dn,ff⟩:∃x,x=Lib.decDigits nd:=⟨_,rfl⟩
  have ez:dn.length<=10:=by rw[ff];exact decl nd ab
  have mB:=ae (fun X=>ff▸Bp nd ab X)
  have HT:=ae (show CV ⟨k,nd,arg,⟨m0,m1,m2,m3,m4⟩⟩=(if k=1\/k=2\/k=4 then(word++[32]++dn)++[32]++Lib.decDigits arg.toNat else if k=7 then word++[32]++dn else(word++[32]++dn)++[32]++iI [m0,m1,m2,m3,m4]) by
   unfold CV;dsimp only;rw[fJ,fJ,<-Di,<-ff]
   have e1:((k:Int)=1\/(k:Int)=2\/(k:Int)=4)=(k=1\/k=2\/k=4):=by apply propext;omega
   have e2:((k:Int)=7)=(k=7):=by apply propext;omega
   simp only[e1,e2]
   rfl)
  obtain⟨T,hT⟩:∃x,x=CV ⟨k,nd,arg,⟨m0,m1,m2,m3,m4⟩⟩:=⟨_,rfl⟩
  rw[<-hT] at HT⊢;clear hT Di ff;have HB:=ae (show aw w (w.alloc (.cells #[I k,I nd,I arg,I m0,I m1,I m2,I m3,I m4] 41)) from(Below.refl _ _).alloc ax _);have Qv:=ae (show az (w.alloc (.cells #[I k,I nd,I arg,I m0,I m1,I m2,I m3,I m4] 41)) w.heap.size #[I k,I nd,I arg,I m0,I m1,I m2,I m3,I m4] from az.new w _ _);unfold iH at*;unfold sv at mB;dsimp only at*;go_enter Tryz.func17,Tryz.ntmps17
  go_upto_region 4 with(go_at_call 46;refine(Hw.out _).mono ?_;rintro r w1 ⟨rfl,D⟩)
  have tf:az w1 w.heap.size #[I k,I nd,I arg,I m0,I m1,I m2,I m3,I m4]:=Qv.out.kept D ai;have aC:aw w w1:=HB.out.trans (D.mono HB.out.size);have ey:w.heap.size<w1.heap.size:=tf.lt;clear HB Qv Hw D;go_cut [4] from 9 to 18 (fun t wd=>t=.string ⟨(word++[32]++dn).toArray⟩/\az wd w.heap.size #[I k,I nd,I arg,I m0,I m1,I m2,I m3,I m4]/\Hid (aw w wd))
  case first=>
   have bT:=tf.drew;have sr:aw w w1.drew:=aC.drew;clear tf aC;refine Rk 9 (.take 1 (.take 2 (.take 6 (.take 7 (.fork 0 8 (.take 3 (.fork 4 8 (.take 5 (.move 8 .nil)) (.move 4 (.take 5 .nil)))) (.move 0 (.take 3 (.move 4 (.take 5 .nil))))))))) (fun X=>(∀j,X.cell? ⟨w.heap.size,j,none⟩=(#[I k,I nd,I arg,I m0,I m1,I m2,I m3,I m4]:Array Value)[j]?)) ah rfl ah bT.cell ?_
   iterate 4 refine qu ?_
   generalize w1.drew=w2 at bT sr⊢;have cF:¬9223372036854775807<word.length+1:=ab;have fO:¬9223372036854775807<word.length+1+dn.length:=ab;have Vq:(0:Int)<=k:=ab;have aDb:(k:Int)<8:=ab;refine Np ?_ ?_
   ·refine kR rfl (fun K hK=> ?_);go_simp;have ox:az (w2.alloc (.cells zC 9)) w2.heap.size zC:=az.new _ _ _;have ji:=bT.alloc (.cells zC 9);have pW:aw w (w2.alloc (.cells zC 9)):=sr.alloc sr.size _
    obtain⟨B,hB⟩:∃B,B=w2.heap.size:=⟨_,rfl⟩
    rw[<-hB] at ox⊢;unfold zC sv at ox ji pW;generalize w2.alloc _=w3 at ox ji pW⊢;clear hB bT sr;have hc:w3.cell? ⟨B,k,none⟩=some (.string ⟨word.toArray⟩):=(ox.cell k).trans jd.out;refine hK.out _ _ ji.cell ?_;clear hK K;refine cJ ?_;refine qu ?_;refine Np ?_ ?_
    ·refine kR rfl (fun K hK=> ?_);go_simp;refine hK.out _ _ ji.cell ?_;clear hK K;refine cJ ?_;refine qu ?_;refine kR rfl (fun K hK=> ?_);go_simp;go_at_call 16;refine(mB.out _).mono ?_;rintro e w4 ⟨rfl,rfl⟩;refine hK.out _ _ ji.cell ?_;clear hK K;refine cJ ?_;refine DU ?_;go_wp2;refine NoPanic.normal ?_;go_wp2;go_meet;exact⟨aG Value.string ((aG (·++_) (cH word [32])).trans (cH (word++[32]) dn)),ji,ae pW⟩
    ·refine kR rfl (fun K hK=> ?_);go_simp;go_at_call 16;refine(mB.out _).mono ?_;rintro e w4 ⟨rfl,rfl⟩;refine hK.out _ _ ji.cell ?_;clear hK K;refine cJ ?_;refine kR rfl (fun K hK=> ?_);go_simp;refine hK.out _ _ ji.cell ?_;clear hK K;refine cJ ?_;refine qu ?_;refine DU ?_;go_wp2;refine NoPanic.normal ?_;go_wp2;go_meet;exact⟨aG Value.string ((aG (·++_) (cH word [32])).trans (cH (word++[32]) dn)),ji,ae pW⟩
   ·refine kR rfl (fun K hK=> ?_);go_simp;go_at_call 16;refine(mB.out _).mono ?_;rintro e w4 ⟨rfl,rfl⟩;refine hK.out _ _ bT.cell ?_;clear hK K;refine cJ ?_;refine kR rfl (fun K hK=> ?_);go_simp;have ox:az (w2.alloc (.cells zC 9)) w2.heap.size zC:=az.new _ _ _;have ji:=bT.alloc (.cells zC 9);have pW:aw w (w2.alloc (.cells zC 9)):=sr.alloc sr.size _
    obtain⟨B,hB⟩:∃B,B=w2.heap.size:=⟨_,rfl⟩
    rw[<-hB] at ox⊢;unfold zC sv at ox ji pW;generalize w2.alloc _=w3 at ox ji pW⊢;clear hB bT sr;have hc:w3.cell? ⟨B,k,none⟩=some (.string ⟨word.toArray⟩):=(ox.cell k).trans jd.out;refine hK.out _ _ ji.cell ?_;clear hK K;refine cJ ?_;refine qu ?_;refine kR rfl (fun K hK=> ?_);go_simp;refine hK.out _ _ ji.cell ?_;clear hK K;refine cJ ?_;refine qu ?_;refine DU ?_;go_wp2;refine NoPanic.normal ?_;go_wp2;go_meet;exact⟨aG Value.string ((aG (·++_) (cH word [32])).trans (cH (word++[32]) dn)),ji,ae pW⟩
  case rest=>
   obtain⟨rfl,bT,HB⟩:=hcut;have MB:(word++[32]++dn).length<=18:=bq;generalize word++[32]++dn=hd at MB HT⊢;have c0:=bT.cell 0;have c2:=bT.cell 2;have c3:=bT.cell 3;have c4:=bT.cell 4;have c5:=bT.cell 5;have c6:=bT.cell 6;have c7:=bT.cell 7;clear jd mB ez vO bT;have cF:¬9223372036854775807<hd.length+1:=ab;by_cases hA:k=1\/k=2\/k=4
   ·have ha:=xG.out;obtain⟨_,_,⟨_,⟨h0,h1⟩,_⟩|⟨h,_⟩|⟨h,_⟩⟩:=ha
    ·dsimp only at h0 h1
     obtain⟨r,rfl⟩:∃n:Nat,arg=n:=⟨arg.toNat,ab⟩
     have HF:=ae (show T=hd++[32]++Lib.decDigits r by rw[HT.out,aq hA,fJ]);have ez:=decl r ab;have hD:=Bp r ab wc;clear HT xG h0 h1;generalize Lib.decDigits r=t at ez HF hD;have HD:=ae hD;clear hD;unfold sv at HD;have fO:¬9223372036854775807<hd.length+1+t.length:=ab
     rcases hA with rfl|rfl|rfl
     all_goals (go_wp2_with (go_at_call 16;refine HD.out.mono ?_;rintro e w4 ⟨rfl,rfl⟩))
     all_goals go_ret
     all_goals exact⟨by rw[HF.out];exact aG (fun x=>Ending.returned (Value.string x)) ((aG (·++_) (cH hd [32])).trans (cH (hd++[32]) t)),HB.out⟩
    ·exact absurd h (by dsimp only;omega)
    ·exact absurd h (by dsimp only;omega)
   ·by_cases h7:k=7
    ·subst h7;have HF:=ae (show T=hd by rw[HT.out];simp);clear HT xG;go_wp2_with fail;go_ret;exact⟨by rw[HF.out];rfl,HB.out⟩
    ·have ha:=xG.out;obtain⟨_,_,⟨h,_⟩|⟨_,_,⟨h0,h1,h2⟩,h3,h4⟩|⟨h,_⟩⟩:=ha
     ·exact absurd h (by dsimp only;omega)
     ·dsimp only at h0 h1 h2 h3 h4;have HF:=ae (show T=hd++[32]++iI [m0,m1,m2,m3,m4] by rw[HT.out,af hA,af h7]);have Hr:=ae (show∀x∈[m0,m1,m2,m3,m4],0<=x/\x<=2147483647 by intro x hx;simp at hx;omega);have ez:=acs [m0,m1,m2,m3,m4] Hr.out
      have hD:=fun v X (h:br X v [m0,m1,m2,m3,m4])=>amy [m0,m1,m2,m3,m4] Hr.out ai v X h
      have hM:=aCZ ⟨m0,m1,m2,m3,m4⟩ wc;unfold bQ.ints at hM;dsimp only at hM;clear HT xG h0 h1 h2 h3 h4 Hr;generalize iI [m0,m1,m2,m3,m4]=t at ez HF hD;have HD:=ae hD;have HM:=ae hM;clear hD hM;unfold sv at HD;have ez:t.length<=60:=ez;have fO:¬9223372036854775807<hd.length+1+t.length:=ab;have Ls:k=3\/k=5\/k=6:=ab;clear hA h7
      rcases Ls with rfl|rfl|rfl
      all_goals (go_wp2_with (first|(go_at_call 48;refine HM.out.mono ?_;rintro e w4 ⟨⟨v,rfl,hv⟩,D4⟩;replace hv:=ae hv;replace D4:=ae D4)|(go_at_call 47;refine(HD.out _ _ hv.out).mono ?_;rintro e w5 ⟨rfl,rfl⟩)))
      all_goals go_ret
      all_goals exact⟨by rw[HF.out];exact aG (fun x=>Ending.returned (Value.string x)) ((aG (·++_) (cH hd [32])).trans (cH (hd++[32]) t)),HB.out.trans (D4.out.mono HB.out.size)⟩
     ·exact absurd h (by dsimp only;omega)
end
section
open Go.RowKit
def mY (f:Nat->Nat->Bool)(n i m:Nat):List Nat:=(List.range m).filter fun k=>vR f n k i
theorem amA (f:Nat->Nat->Bool)(n i m:Nat):mY f n i (m+1)=mY f n i m++if vR f n m i then [m] else []:=by
 unfold mY;rw[lV,qk];congr 1;cases h:vR f n m i<;>simp[h]
theorem amB (f:Nat->Nat->Bool)(n i m:Nat):(mY f n i m).length<=m:=bj (nQ _ _) ai
theorem amC (f:Nat->Nat->Bool)(n i m:Nat):∀x∈mY f n i m,x<m:=fun _ hx=>gy.1 (nj.1 hx).1
end
section
open Go.RowKit
theorem amD (A B:List (Nat×Nat))(i:Nat):aQ (A++B) i=aQ A i++aQ B i:=by
 unfold aQ;rw[qk,de]
theorem amE (f:Nat->Nat->Bool)(n a i:Nat):∀k,aQ ((lO f n a k).map fun p=>(p.2,p.1)) i=if i<k/\vR f n a i=true then [a] else []
 |0=>by simp[lO,aQ]
 |k+1=>by
  rw[ahY,de,amD,amE f n a i k];by_cases zR:k=i
  ·subst zR;cases h:vR f n a k<;>simp[aQ]
  ·by_cases hlt:i<k
   ·have h1:i<k+1:=ab;cases h:vR f n a k<;>simp[aQ,hlt,h1,zR]
   ·have h1:¬i<k+1:=ab;cases h:vR f n a k<;>simp[aQ,hlt,h1,zR]
theorem amF (f:Nat->Nat->Bool)(n i:Nat)(hi:i<n):∀m,aQ ((fF f n m).map fun p=>(p.2,p.1)) i=mY f n i m
 |0=>by simp[fF,mY,aQ]
 |m+1=>by
  rw[aia,de,amD,amF f n i hi m,amA,amE];congr 1;simp[hi]
theorem acu (l:List ay)(i:Nat)(hi:i<l.length):aQ (lq l) i=mY (dc l) l.length i l.length:=amF (dc l) l.length i hi l.length
theorem acv (e:Ev):(ei e).length<=200:=by
 by_cases hk:sQ e
 ·refine abS e ?_;obtain⟨h1,h2,h⟩:=hk;obtain⟨k,nd,ar,⟨m0,m1,m2,m3,m4⟩⟩:=e;dsimp only at h1 h2 h;intro x hx;simp only[Ev.ints,cz,jD,kL] at hx;unfold bY
  rcases h with⟨ha,hb,hc⟩|⟨ha,hb,hc⟩|⟨ha,hb,hc⟩
  ·injection hc with e0 e1 e2 e3 e4;omega
  ·omega
  ·injection hc with e0 e1 e2 e3 e4;omega
 ·have h1:ei e=[]:=by
   unfold ei;rw[af (fun hw=>hk ((Fk e).1 hw))]
  rw[h1];simp
theorem acw (l:List ay)(F:Nat->List Nat)(C:Nat)(h:∀i (hi:i<l.length),(xX i l[i] (F i)).length<=C):∀m,m<=l.length->(et l F m).length<=C*m
 |0,_=>by simp[et]
 |m+1,hm=>by
  have ih:=acw l F C h m ab;rw[Bl l F m ab,List.length_append];have:=h m ab;rw[Nat.mul_succ];omega
end
section
open Go.RowKit
theorem amG {s:ay}(h:ME s):Dc s:=by
 obtain⟨h1,h2,h3,h4⟩:=h;refine⟨?_,fun a ha=> ?_,ab⟩
 ·generalize s.ev=ev at h1;obtain⟨k,nd,ar,⟨m0,m1,m2,m3,m4⟩⟩:=ev;obtain⟨b1,b2,b⟩:=h1;dsimp only at b1 b2 b;intro x hx;simp only[Ev.ints,cz,jD,kL] at hx;unfold bY
  rcases b with⟨ha,hb,hc⟩|⟨ha,hb,hc⟩|⟨ha,hb,hc⟩
  ·injection hc with e0 e1 e2 e3 e4;omega
  ·omega
  ·injection hc with e0 e1 e2 e3 e4;omega
 ·have hA:=h2 a ha;obtain⟨q1,q2,q3,q4,q5,q6,q7⟩:=a;obtain⟨⟨g1,g2,g3⟩,g4,g5,g6⟩:=hA;dsimp only[Ask.qn] at g1 g2 g3 g4 g5 g6;intro x hx;simp only[Ask.ints,cz,jD,kL] at hx;unfold bY;omega
end
end Go.Proofs.YtkanpepkdcmpmaaGreatDoor
