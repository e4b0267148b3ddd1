import Derived.Test.YtlnghiefahcnpaaGreatQ0
set_option maxHeartbeats 40000000
set_option maxRecDepth 100000
set_option linter.all false
namespace Go.Proofs.YtlnghiefahcnpaaGreat
section
def mP (nx:Nat->List Nat)(n:Nat):List Nat:=(List.range n).flatMap nx
structure lZ (nx:Nat->List Nat)(n:Nat)(row:List Nat)(done:List Nat):Prop where
 nodup:row.Nodup
 lt:∀a∈row,a<n
 mem:∀b<n,b∈row↔done.count b=(mP nx n).count b
 order:∀(q:Nat) (b:Nat),row[q]? =some b->∀a<n,b∈nx a->a∈row.take q
theorem La {n:Nat}{l:List Nat}(hn:l.Nodup)(hl:∀a∈l,a<n):(l++(List.range n).filter (fun a=>decide (a∉l))).Perm (List.range n):=by
 refine(List.perm_ext_iff_of_nodup ?_ DT).2 fun a=> ?_
 ·rw[List.nodup_append];refine⟨hn,DT.filter _,?_⟩;intro x hx y hy;rintro rfl;have:=(jG.1 hy).2;simp at this;exact this hx
 ·simp only[fA,jG,eF,dv];constructor
  ·rintro(ha|ha)
   ·exact hl a ha
   ·exact ha.1
  ·intro ha;by_cases hr:a∈l
   ·exact .inl hr
   ·exact .inr ⟨ha,hr⟩
theorem TT (nx:Nat->List Nat)(b:Nat){n:Nat}{l:List Nat}(hn:l.Nodup)(hl:∀a∈l,a<n):(l.flatMap nx).count b<=(mP nx n).count b:=by
 have:=(List.Perm.flatMap_right nx (La hn hl)).count_eq b;rw[Bi,zq] at this;unfold mP;omega
theorem lZ.step {nx:Nat->List Nat}{n:Nat}{row done:List Nat}(h:lZ nx n row done)(k:Nat)(a:Nat)(hk:row[k]? =some a)(j:Nat)(b:Nat)(hj:(nx a)[j]? =some b)(hb:b<n)
  (hd:done=(row.take k).flatMap nx++(nx a).take j):b∉row/\done.count b<(mP nx n).count b/\
   ((mP nx n).count b=done.count b+1->lZ nx n (row++[b]) (done++[b]))/\((mP nx n).count b≠done.count b+1->lZ nx n row (done++[b])):=by
 have kr:=(bk.1 hk).1;have dD:=(bk.1 hj).1
 have cm:row.take (k+1)=row.take k++[a]:=by rw[Bm,hk];rfl
 have TU:(done++[b])<+:(row.take (k+1)).flatMap nx:=by
  rw[cm,Bi,hd,List.append_assoc];refine(List.prefix_append_right_inj _).2 ?_
  have:(nx a).take j++[b]=(nx a).take (j+1):=by rw[Bm,hj];rfl
  rw[this];simp only[zp,List.flatMap_nil,vS];exact List.take_prefix _ _
 have ct:(row.take (k+1)).Nodup:=(List.take_sublist _ _).nodup h.nodup
 have gj:∀x∈row.take (k+1),x<n:=fun x hx=>h.lt x (vP hx)
 have hle:(done++[b]).count b<=(mP nx n).count b:=Nat.le_trans (TU.sublist.count_le b) (TT nx b ct gj);have iI:(done++[b]).count b=done.count b+1:=ae;have hlt:done.count b<(mP nx n).count b:=aa
 have DY:b∉row:=fun hm=>by have:=(h.mem b hb).1 hm;omega
 have TV:∀x,x≠b->(done++[b]).count x=done.count x:=fun x hx=>by
  simp[zq,Ne.symm hx]
 refine⟨DY,hlt,fun he=> ?_,fun he=> ?_⟩
 ·refine⟨?_,?_,?_,?_⟩
  ·rw[List.nodup_append];refine⟨h.nodup,ae,?_⟩;intro x hx y hy;simp at hy;subst hy;rintro rfl;exact DY hx
  ·intro x hx
   rcases fA.1 hx with hx|hx
   ·exact h.lt x hx
   ·simp at hx;omega
  ·intro x hx;by_cases qE:x=b
   ·subst qE;simp[iI,he]
   ·rw[TV x qE,<-h.mem x hx];simp[qE]
  ·intro q x hq c hc qF;by_cases eY:q<row.length
   ·rw[kj eY] at hq;rw[iH aa];exact h.order q x hq c hc qF
   ·have mQ:q=row.length:=by
     have:=(bk.1 hq).1;simp at this;omega
    subst mQ;rw[cD av] at hq;simp at hq;subst hq;rw[List.take_left]
    refine zk fun mR=> ?_
    have Qd:c∉row.take (k+1):=fun hm=>mR (vP hm)
    have ik:=TT nx b (n:=n) (l:=c::row.take (k+1)) (List.nodup_cons.2 ⟨Qd,ct⟩) (by
     intro y hy
     rcases eM.1 hy with rfl|hy
     ·exact hc
     ·exact gj y hy)
    rw[zp,zq] at ik;have h1:0<(nx c).count b:=List.count_pos_iff.2 qF;have h2:=TU.sublist.count_le b;omega
 ·refine⟨h.nodup,h.lt,?_,h.order⟩;intro x hx;by_cases qE:x=b
  ·subst qE;rw[iI];constructor
   ·intro hm;exact absurd hm DY
   ·intro e;exact absurd e.symm he
  ·rw[TV x qE];exact h.mem x hx
theorem lZ.full {nx:Nat->List Nat}{n:Nat}{row:List Nat}(h:lZ nx n row (row.flatMap nx))(hx:∀a<n,∀b∈nx a,a<b):∀i<n,i∈row:=by
 intro i
 induction i using Nat.strongRecOn with
 |_ i ih=>
  intro hi;rw[h.mem i hi];have hp:=La h.nodup h.lt;have hc:=(List.Perm.flatMap_right nx hp).count_eq i;rw[Bi,zq] at hc
  have h0:(((List.range n).filter (fun a=>decide (a∉row))).flatMap nx).count i=0:=by
   rw[List.count_eq_zero];intro hm;obtain⟨a,ha,TA⟩:=DU.1 hm;obtain⟨h1,h2⟩:=jG.1 ha;simp only[eF,dv] at h1 h2;exact h2 (ih a (hx a h1 i TA) h1)
  unfold mP;omega
theorem lZ.length {nx:Nat->List Nat}{n:Nat}{row:List Nat}(h:lZ nx n row (row.flatMap nx))(hx:∀a<n,∀b∈nx a,a<b):row.length=n:=by
 have hp:row.Perm (List.range n):=(List.perm_ext_iff_of_nodup h.nodup DT).2 fun a=>⟨fun ha=>eF.2 (h.lt a ha),fun ha=>h.full hx a (eF.1 ha)⟩
 simpa using hp.length_eq
theorem lZ.length_le {nx:Nat->List Nat}{n:Nat}{row done:List Nat}(h:lZ nx n row done):row.length<=n:=by
 have:=(La h.nodup h.lt).length_eq;rw[List.length_append,xA] at this;omega
theorem lZ.start (nx:Nat->List Nat)(n:Nat):lZ nx n ((List.range n).filter fun i=>decide ((mP nx n).count i=0)) []:=by
 refine⟨DT.filter _,fun a ha=>eF.1 (jG.1 ha).1,fun b hb=> ?_,fun q b hq a ha TB=> ?_⟩
 ·simp only[jG,eF,dv,List.count_nil];constructor
  ·rintro⟨_,h⟩;exact h.symm
  ·intro h;exact⟨hb,h.symm⟩
 ·have hm:=dJ hq;have:=(jG.1 hm).2;simp only[dv,List.count_eq_zero] at this;exact absurd (DU.2 ⟨a,eF.2 ha,TB⟩) this
end
end Go.Proofs.YtlnghiefahcnpaaGreat
