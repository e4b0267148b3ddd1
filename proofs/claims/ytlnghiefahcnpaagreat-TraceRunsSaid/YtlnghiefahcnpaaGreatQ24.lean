import Derived.Test.YtlnghiefahcnpaaGreatQ0
set_option maxHeartbeats 40000000
set_option maxRecDepth 100000
set_option linter.all false
namespace Go.Proofs.YtlnghiefahcnpaaGreat
section
open Go.RowKit
def il (l:List Ask):List Int:=l.flatMap Ask.key
theorem Ur (a:Ask)(l:List Ask):il (a::l)=a.key++il l:=rfl
theorem aiZ (a b:Ask)(l m:List Ask):aQ (il (a::l)) (il (b::m))=if aQ a.key b.key !=0 then aQ a.key b.key else aQ (il l) (il m):=by
 rw[Ur,Ur,BD a.key b.key _ _ rfl]
theorem aja (l m:List Ask)(h:l=[]\/m=[]):aQ (il l) (il m)=fD l.length m.length:=by
 rcases h with rfl|rfl
 ·cases m with
  |nil=>rfl
  |cons b m=>simp[il,Ask.key,aQ,fD]
 ·cases l with
  |nil=>rfl
  |cons b m=>simp[il,Ask.key,aQ,fD]<;>omega
theorem ajb (l m:List Ask)(v u:Value)(w:World)(hl:fk w v l)(hm:fk w u m):
  Calls Tryz.prog 79 #[v,u,.func (.func 80) #[] #[]] w fun e w'=>e=.returned (I (aQ (il l) (il m)))/\Below w.heap.size w w':=by
 obtain⟨ka,ca,rfl,ft⟩:=hl.open;obtain⟨kb,cb,rfl,gr⟩:=hm.open;have Ek:(l.length<=m.length)\/(m.length<l.length):=aa
 rcases Ek with hle|hle
 all_goals
  have ou:∀k,¬(k<l.length/\k<m.length)->k<=l.length->k<=m.length->l.drop k=[]\/m.drop k=[]:=by
   intro k h1 h2 h3;by_cases h4:k<l.length
   ·right;exact oZ aa
   ·left;exact oZ aa
  have ajc:=ab ou;clear ou;go_enter Tryz.func79,Tryz.ntmps79;go_wp2_with fail;go_loopw [14] (fun i wr=>∃k:Nat,k<=l.length/\k<=m.length/\i=.int .i64 k/\Below w.heap.size w wr/\aQ (il l) (il m)=aQ (il (l.drop k)) (il (m.drop k))) (fun i _=>l.length-(intOf i).toNat)
  case atStart=>exact⟨0,aa,aa,rfl,Below.refl _ _,ae⟩
  case round=>
   obtain⟨k,hk,mY,rfl,hB,hE⟩:=hrel;have HE:=ab hE;clear hE;by_cases hlt:k<l.length/\k<m.length
   ·obtain⟨qJ,cH⟩:=hlt;obtain⟨b,o,rfl,x0,x1,x2,x3,x4,x5,x6⟩:=(hl.kept hB av).at (i:=k) (x:=l[k]) (by simp[qJ]);obtain⟨b',o',rfl,y0,y1,y2,y3,y4,y5,y6⟩:=(hm.kept hB av).at (i:=k) (x:=m[k]) (by simp[cH])
    have Hd:=ab (show aQ (il l) (il m)=if aQ l[k].key m[k].key !=0 then aQ l[k].key m[k].key else aQ (il (l.drop (k+1))) (il (m.drop (k+1))) by
     rw[HE.out,List.drop_eq_getElem_cons qJ,List.drop_eq_getElem_cons cH,aiZ])
    by_cases hx:aQ l[k].key m[k].key=0
    ·have hq:(aQ l[k].key m[k].key !=0)=false:=by simp[hx]
     have hr:=ab (Hd.out.trans (if_neg (by simp[hx])));clear hx;go_wp2_with fail;go_still_tail 9,ah;change wpList _ _ _ _ _ wr.drew;go_wp2_with fail;refine(Uq l[k] m[k] _).mono ?_;rintro e w1 ⟨rfl,ay⟩;have jo:=hB.drew.trans (ay.mono hB.size);go_wp2_with fail;go_roundw
     case rel=>exact⟨k+1,aa,aa,by go_num,jo,hr.out⟩
     case measure=>simp[intOf];omega
    ·have hq:(aQ l[k].key m[k].key !=0)=true:=by simp[hx]
     have hr:=ab (Hd.out.trans (if_pos (by simp[hx])));clear hx;go_wp2_with fail;go_still_tail 9,ah;change wpList _ _ _ _ _ wr.drew;go_wp2_with fail;refine(Uq l[k] m[k] _).mono ?_;rintro e w1 ⟨rfl,ay⟩;have jo:=hB.drew.trans (ay.mono hB.size);go_wp2_with fail;go_ret;exact⟨kD hr.out.symm,jo⟩
   ·have hr:=ab (show aQ (il l) (il m)=fD l.length m.length by
     rw[HE.out,aja _ _ (ajc.out k hlt hk mY),lj,lj];have:((l.length-k:Nat):Int)=(l.length:Int)-k:=aa;have h2:((m.length-k:Nat):Int)=(m.length:Int)-k:=aa;rw[this,h2];simp only[fD]
     repeat' split
     all_goals omega)
    have pw:(k=l.length/\l.length<=m.length)\/(k=m.length/\m.length<l.length):=aa;go_wp2_with fail;refine(HU l.length m.length _).mono ?_;rintro e w1 ⟨rfl,rfl⟩;go_wp2_with fail;go_ret;exact⟨kD hr.out.symm,hB⟩
theorem Us (s t:af)(v u:Value)(w:World)(hs:s.In w v)(ht:t.In w u):
  Calls Tryz.prog 42 #[v,u] w fun e w'=>e=.returned (I (aQ s.key t.key))/\Below w.heap.size w w':=by
 obtain⟨va,vs,rfl,eZ,fB⟩:=hs;obtain⟨ka,ca,rfl,xH⟩:=eZ.open;obtain⟨kb,cb,rfl,_⟩:=fB.open;obtain⟨ua,us,rfl,fL,gm⟩:=ht;obtain⟨kc,cc,rfl,_⟩:=fL.open;obtain⟨kd,cd,rfl,_⟩:=gm.open;have hsp:aQ s.key t.key=if aQ s.ev.ints t.ev.ints !=0 then aQ s.ev.ints t.ev.ints else aQ (il s.asks) (il t.asks):=BD s.ev.ints t.ev.ints _ _ rfl;have Ut:=ab hsp;clear hsp;simp only[af.val,af.row];by_cases hx:aQ s.ev.ints t.ev.ints=0
 ·have hq:(aQ s.ev.ints t.ev.ints !=0)=false:=by simp[hx]
  have hr:=ab (Ut.out.trans (if_neg (by simp[hx])));clear hx;unfold Ev.ints at hq;go_enter Tryz.func42,Tryz.ntmps42;go_wp2_with fail;refine(Up _ _ _ _ _ _ _ _ _ _ _ _ _ _ _ _ _).mono ?_;rintro e w1 ⟨rfl,ay⟩;have hcc:=iW ay;have fu:=(bJ.start w _ _ _).call ay;have Vl:=fu.1.cell;have hd2:=fu.2.1.cell;clear hcc;go_wp2_with fail;refine(ajb s.asks t.asks _ _ _ (eZ.kept fu.2.2.1 av) (fL.kept fu.2.2.1 av)).mono ?_;rintro e w2 ⟨rfl,bO⟩;go_wp2_with fail;go_ret;exact⟨kD hr.out.symm,(fu.call bO).2.2.1⟩
 ·have hq:(aQ s.ev.ints t.ev.ints !=0)=true:=by simp[hx]
  have hr:=ab (Ut.out.trans (if_pos (by simp[hx])));clear hx;unfold Ev.ints at hq;go_enter Tryz.func42,Tryz.ntmps42;go_wp2_with fail;refine(Up _ _ _ _ _ _ _ _ _ _ _ _ _ _ _ _ _).mono ?_;rintro e w1 ⟨rfl,ay⟩;have fu:=(bJ.start w _ _ _).call ay;go_wp2_with fail;go_ret;exact⟨kD hr.out.symm,fu.2.2.1⟩
end
end Go.Proofs.YtlnghiefahcnpaaGreat
