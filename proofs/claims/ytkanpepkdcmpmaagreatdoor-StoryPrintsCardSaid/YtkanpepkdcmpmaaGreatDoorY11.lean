import Derived.Shelf.Strings.MapGrows
import Derived.Test.YtkanpepkdcmpmaaGreatDoorY10
set_option maxHeartbeats 40000000
set_option maxRecDepth 100000
set_option linter.all false
namespace Go.Proofs.YtkanpepkdcmpmaaGreatDoor
section
open Go.RowKit
theorem sizeBuilder:(Tryz.prog.info? 88).map (·.size)=some 2:=ah
theorem liesBuilder:liesAt Tryz.prog Tryz.prog.depth 88 (2/Tryz.prog.cellsOf 88) 0 88 1=true:=ah
theorem infoByte:(Tryz.prog.info? 5).map (fun i=>(i.zero,i.size,i.bytes))=some (some (.int .u8 0),1,1):=ah
theorem awh (b:Nat)(w:World)(h0:w.cell? ⟨b,0,none⟩=some (.pointer (some ⟨b,0,none⟩))):
  Calls Tryz.prog 72 #[.pointer (some ⟨b,0,none⟩)] w fun e w'=>e=.returned (.tuple #[])/\w'=w:=by
 obtain⟨j,hj,_⟩:=bO.1 sizeBuilder;go_enter Tryz.func72,Tryz.ntmps72;go_wp2;rw[Lib.run_neq_ptr_same w _ Tryz.underlying85 hj];go_wp2;go_end0;exact⟨rfl,rfl⟩
theorem awi (b:Nat)(w:World)(h0:w.cell? ⟨b,0,none⟩=some (.pointer none))(Ii:w.shape? b=some (88,2))(IE:w.frozen? ⟨b,0,none⟩=false):
  Calls Tryz.prog 72 #[.pointer (some ⟨b,0,none⟩)] w fun e w'=>e=.returned (.tuple #[])/\w'=w.setCell ⟨b,0,none⟩ (.pointer (some ⟨b,0,none⟩)):=by
 obtain⟨j,hj,DY⟩:=bO.1 sizeBuilder;go_enter Tryz.func72,Tryz.ntmps72;go_wp2;rw[Lib.run_to_unsafe w ⟨b,0,none⟩ Tryz.underlying85 Tryz.underlying223 hj (by rw[DY];decide) Ii (Nat.zero_lt_succ 1)];simp only[Result.andThen];rw[Oper.upon_value];go_wp2;rw[run_callFunc_extern Tryz.func130 ah ah ah (e:=Extern.AbiNoEscape.same) ah];rw[Lib.run_noEscape];simp only[Result.andThen];rw[Oper.upon_value];go_wp2;rw[Lib.run_from_unsafe w ⟨b,0,none⟩ Tryz.underlying223 Tryz.underlying85 hj Ii liesBuilder];simp only[Result.andThen];rw[Oper.upon_value];go_wp2;go_end0;exact⟨rfl,rfl⟩
theorem aid (B b:Nat)(bs:List Value)(w:World)(h:Lib.IsBuilderF 88 5 B b bs w):
  Calls Tryz.prog 72 #[.pointer (some ⟨b,0,none⟩)] w fun e w'=>e=.returned (.tuple #[])/\(Lib.BuilderAtF 88 5 B b (.pointer (some ⟨b,0,none⟩)) bs w'/\Below B w w'/\Lib.OthersKept 5 (some b) w w'):=by
 rcases h with h|h
 ·refine(awi b w h.cell0 h.shape h.frozen0).mono ?_;rintro e w' ⟨rfl,rfl⟩;exact⟨rfl,h.used _,(Below.refl B w).setCell (p:=⟨b,0,none⟩) h.1 _,(Lib.OthersKept.refl _ _ w).setCell ⟨b,0,none⟩ rfl _⟩
 ·refine(awh b w h.cell0).mono ?_;rintro e w' ⟨rfl,rfl⟩;exact⟨rfl,h,Below.refl B _,Lib.OthersKept.refl _ _ _⟩
theorem awj (B b:Nat)(bs:List Value)(c:Int)(w:World)(h:Lib.IsBuilderF 88 5 B b bs w)(hlen:bs.length+1<=140737488355328)(nE:B<=w.heap.size):
  Calls Tryz.prog 33 #[.pointer (some ⟨b,0,none⟩),.int .u8 c] w fun e w'=>e=.returned .nilIface/\(Lib.BuilderAtF 88 5 B b (.pointer (some ⟨b,0,none⟩)) (bs++[.int .u8 c]) w'/\Below B w w'/\Lib.OthersKept 5 (some b) w w'):=by
 obtain⟨i0,hi,eZ,cL,fj⟩:=wL infoByte;go_enter Tryz.func33,Tryz.ntmps33
 go_wp2_with (go_at_call 72;refine(aid B b bs _ h).mono ?_)
 rintro e w1 ⟨rfl,h1,cT,ew⟩;obtain⟨hB,v,nZ,aS,hne⟩:=h1
 have c0:w1.cell? ⟨b,0,none⟩=some (.pointer (some ⟨b,0,none⟩)):=by rw[Lib.cell_of_heap nZ];rfl
 have c1:w1.cell? ⟨b,1,none⟩=some v:=by rw[Lib.cell_of_heap nZ];rfl
 go_wp2_with (at_builtin;refine wpList_append_ownF _ rfl _ _ 86 rfl B 5 i0 (.int .u8 0) 1 1 Tryz.underlying86 hi eZ cL fj rfl au _ _ _ rfl (aS.alloc _) ⟨w1.heap.size,0,none⟩ 1 1 [.int .u8 c] rfl rfl ?c1 ?c2 ?c3 ?c4 ?c5 ?_)
 case c1=>
  intro j u hj
  match j,hj with
  |0,hj=>simp at hj;subst hj;simp[Addr.add]
 case c2=>intro u hu;simp at hu;subst hu;rfl
 case c3=>unfold maxLen;omega
 case c4=>omega
 case c5=>have:=cT.size;simp;omega
 intro v' w2 OL zd _
 have hlt:b<w1.heap.size:=by
  rcases BK b w1.heap.size with h'|h'
  ·exact h'
  ·simp[Array.getElem?_eq_none h'] at nZ
 have eU:w2.heap[b]? =some (.cells #[.pointer (some ⟨b,0,none⟩),v] 88 (0,0)):=by
  rw[zd.block b bq (fun e=>hne e.symm),Lib.alloc_old w1 _ b hlt];exact nZ
 have d0:w2.cell? ⟨b,0,none⟩=some (.pointer (some ⟨b,0,none⟩)):=by rw[Lib.cell_of_heap eU];rfl
 have d1:w2.cell? ⟨b,1,none⟩=some v:=by rw[Lib.cell_of_heap eU];rfl
 have f1:w2.frozen? ⟨b,1,none⟩=false:=Lib.frozen_of_heap eU 1
 obtain⟨g,cap,rfl⟩:∃g cap,v'=.slice (some ⟨g,0,none⟩) (bs.length+1) cap:=by
  rcases OL.2 with⟨_,h0⟩|⟨g,cap,cur,fz,hv,_⟩
  ·omega
  ·exact⟨g,cap,hv⟩
 go_wp2;go_ret;refine⟨rfl,?_,?_,((ew.alloc _).grown zd (Lib.ownsRowF_kind (aS.alloc _))).setCell ⟨b,1,none⟩ rfl _⟩
 ·exact Lib.BuilderAtF.put (T:=88) (e:=5) hB eU (bs':=bs++[.int .u8 c]) (by simpa using OL) au
 ·exact((cT.alloc (by have:=cT.size;omega) _).grown zd (by have:=cT.size;simp;omega) (fun k hk=>(aS.lt k hk).1)).setCell (p:=⟨b,1,none⟩) hB _
theorem awk (B b:Nat)(bs:List Value)(s:ByteArray)(w:World)(h:Lib.IsBuilderF 88 5 B b bs w)(hlen:bs.length+s.size<=140737488355328)(nE:B<=w.heap.size):
  Calls Tryz.prog 28 #[.pointer (some ⟨b,0,none⟩),.string s] w fun e w'=>e=.returned (.tuple #[.int .i64 s.size,.nilIface])/\(Lib.BuilderAtF 88 5 B b (.pointer (some ⟨b,0,none⟩)) (bs++Lib.strCells s) w'/\Below B w w'/\Lib.OthersKept 5 (some b) w w'):=by
 obtain⟨i0,hi,eZ,cL,fj⟩:=wL infoByte;go_enter Tryz.func28,Tryz.ntmps28
 go_wp2_with (go_at_call 72;refine(aid B b bs _ h).mono ?_)
 rintro e w1 ⟨rfl,h1,cT,ew⟩;obtain⟨hB,v,nZ,aS,hne⟩:=h1
 have c0:w1.cell? ⟨b,0,none⟩=some (.pointer (some ⟨b,0,none⟩)):=by rw[Lib.cell_of_heap nZ];rfl
 have c1:w1.cell? ⟨b,1,none⟩=some v:=by rw[Lib.cell_of_heap nZ];rfl
 go_wp2_with (at_builtin;refine Lib.wpList_append_own_stringF _ rfl _ _ 86 9 rfl B 5 i0 Tryz.underlying86 Tryz.underlying9 hi eZ cL fj _ _ _ rfl aS s rfl ?c3 ?c4 ?c5 ?_)
 case c3=>unfold maxLen;omega
 case c4=>omega
 case c5=>have:=cT.size;omega
 intro v' w2 OL zd _
 have hlt:b<w1.heap.size:=by
  rcases BK b w1.heap.size with h'|h'
  ·exact h'
  ·simp[Array.getElem?_eq_none h'] at nZ
 have eU:w2.heap[b]? =some (.cells #[.pointer (some ⟨b,0,none⟩),v] 88 (0,0)):=by
  rw[zd.block b hlt (fun e=>hne e.symm)];exact nZ
 have d0:w2.cell? ⟨b,0,none⟩=some (.pointer (some ⟨b,0,none⟩)):=by rw[Lib.cell_of_heap eU];rfl
 have d1:w2.cell? ⟨b,1,none⟩=some v:=by rw[Lib.cell_of_heap eU];rfl
 have f1:w2.frozen? ⟨b,1,none⟩=false:=Lib.frozen_of_heap eU 1
 obtain⟨ao,n',cap,rfl⟩:∃ao n' cap,v'=.slice ao n' cap:=by
  rcases OL.2 with⟨hv,_⟩|⟨g,cap,cur,fz,hv,_⟩
  ·exact⟨_,_,_,hv⟩
  ·exact⟨_,_,_,hv⟩
 go_wp2;go_ret2;refine⟨rfl,?_,?_,(ew.grown zd (Lib.ownsRowF_kind aS)).setCell ⟨b,1,none⟩ rfl _⟩
 ·exact Lib.BuilderAtF.put (T:=88) (e:=5) hB eU (bs':=bs++Lib.strCells s) (by simpa [Lib.strCells_length] using OL) au
 ·exact(cT.grown zd (by have:=cT.size;omega) (fun k hk=>(aS.lt k hk).1)).setCell (p:=⟨b,1,none⟩) hB _
end
section
open Go.RowKit
variable {B b gn q:Nat} {L:List (Nat×Nat)} {W W' W5 X Y:World} {arr cs:Array Value} {t:aj}
structure uj (B gn n:Nat)(W:World)(L:List (Nat×Nat))(arr:Array Value):Prop where
 bn:az W gn arr
 ln:gn<B
 hB:B<=W.heap.size
 sn:arr.size=n
 row:∀a<n,∃va,arr[a]? =some va/\W.ownsRow B 3 1 va (aQ L a).length (nv (aQ L a))
 sep:∀(a a':Nat) (va fV:Value),a≠a'->arr[a]? =some va->arr[a']? =some fV->va.ownBlock=none\/va.ownBlock≠fV.ownBlock
theorem uj.kept{n:Nat}(h:uj B gn n W L arr)(hb:aw W W'):uj B gn n W' L arr:=
 { h with
  bn:=h.bn.kept hb h.bn.lt
  hB:=bj h.hB hb.size
  row:=fun a ha=>by
   obtain⟨va,h1,h2⟩:=h.row a ha
   exact⟨va,h1,pj h2 hb⟩ }
theorem uj.drew{n:Nat}(h:uj B gn n W L arr):uj B gn n W.drew L arr:=h.kept ((Below.refl _ W).drew)
theorem uj.start{n:Nat}(hn:az W gn (eB n (.slice none 0 0)))(h1:gn<B)(hB:B<=W.heap.size):uj B gn n W [] (eB n (.slice none 0 0)) where
 bn:=hn
 ln:=h1
 hB:=hB
 sn:=AH _ _
 row:=fun a ha=>⟨_,Cy _ _ _ ha,ko _ _ _ _⟩
 sep:=fun a a' va fV _ h1 _=>by
  have:va=.slice none 0 0:=by
   have hlt:=(ng.1 h1).1;rw[AH] at hlt;rw[Cy _ _ _ hlt] at h1;exact(dX h1).symm
  subst this;exact .inl rfl
theorem uj.step{n:Nat}{W2:World}(h:uj B gn n W L arr)(p:Nat×Nat)(rm:p.1<n)(va:Value)(dU:arr[p.1]? =some va)
  (g cap:Nat) (aS:W2.ownsRow B 3 1 (.slice (some ⟨g,0,none⟩) ((aQ L p.1).length+1) cap) ((aQ L p.1).length+1) (nv (aQ L p.1)++[I (p.2:Nat)])) (tZ:W.grownBy W2 va.ownBlock) (hg:va.ownBlock=some g\/W.heap.size<=g) (hsz:W.heap.size<=W2.heap.size):
  uj B gn n (W2.setCell ⟨gn,p.1,none⟩ (.slice (some ⟨g,0,none⟩) ((aQ L p.1).length+1) cap)) (L++[p])
   (arr.setIfInBounds p.1 (.slice (some ⟨g,0,none⟩) ((aQ L p.1).length+1) cap)):=by
 have Ip:va.ownBlock=none\/∃g,va.ownBlock=some g/\B<=g/\g<W.heap.size:=by
  obtain⟨fV,e1,e2⟩:=h.row p.1 rm;rw[dU] at e1;cases e1;exact EI e2
 have hne:∀x,x<B->va.ownBlock≠some x:=fun x hx e=>by
  rcases Ip with h0|⟨g',h0,h1,_⟩
  ·rw[h0] at e;cases e
  ·rw[h0] at e;cases e;omega
 have Lm:B<=g:=(aS.lt g rfl).1
 have iK:∀{fV:Value} {m:Nat} {xs:List Value},W2.ownsRow B 3 1 fV m xs->(W2.setCell ⟨gn,p.1,none⟩ (.slice (some ⟨g,0,none⟩) ((aQ L p.1).length+1) cap)).ownsRow B 3 1 fV m xs:=by
  intro fV m xs ho
  have Th:∀x,x<B->fV.ownBlock=none\/fV.ownBlock≠some x:=fun x hx=>by
   rcases EI ho with h0|⟨g',h0,h1,_⟩
   ·exact .inl h0
   ·exact .inr (by rw[h0];intro e;cases e;omega)
  have h1:W2.grownBy (W2.setCell ⟨gn,p.1,none⟩ (.slice (some ⟨g,0,none⟩) ((aQ L p.1).length+1) cap)) (some gn):=⟨rfl,rfl,rfl,ai,fun k _ hk=>uI _ _ _ _ (fun e=>hk (by rw[e]))⟩
  exact ho.kept h1 (Th gn h.ln)
 exact {
  bn:=(h.bn.grown tZ (hne gn h.ln)).set p.1 _
  ln:=h.ln
  hB:=by simp only[World.size_setCell];exact bj h.hB hsz
  sn:=by rw[yi];exact h.sn
  row:=fun a ha=>by
   by_cases e:p.1=a
   ·subst e;refine⟨_,by rw[oz (by rw[h.sn];exact rm)],?_⟩;rw[Tg,aq rfl];have:=iK aS;simpa [nv] using this
   ·obtain⟨fV,e1,e2⟩:=h.row a ha;refine⟨fV,by rw[nf e];exact e1,?_⟩;rw[Tg,af e];exact iK (e2.kept tZ (h.sep a p.1 fV va (fun x=>e x.symm) e1 dU))
  sep:=fun a a' x y Iq hx hy=>by
   by_cases e:p.1=a
   ·subst e;rw[oz (by rw[h.sn];exact rm)] at hx;cases hx;rw[nf Iq] at hy;right;intro e2;have vK:y.ownBlock=some g:=e2.symm
    have ha':a'<n:=by have:=(ng.1 hy).1;rw[h.sn] at this;exact this
    obtain⟨y',f1,f2⟩:=h.row a' ha';rw[hy] at f1;cases f1;have hlt:=(f2.lt g vK).2
    rcases hg with hg|hg
    ·rcases h.sep p.1 a' va y Iq dU hy with h0|h0
     ·rw[h0] at hg;cases hg
     ·exact h0 (hg.trans vK.symm)
    ·omega
   ·rw[nf e] at hx;by_cases e':p.1=a'
    ·subst e';rw[oz (by rw[h.sn];exact rm)] at hy;cases hy;right;intro e2;have uf:x.ownBlock=some g:=e2
     have ha:a<n:=by have:=(ng.1 hx).1;rw[h.sn] at this;exact this
     obtain⟨x',f1,f2⟩:=h.row a ha;rw[hx] at f1;cases f1;have hlt:=(f2.lt g uf).2
     rcases hg with hg|hg
     ·rcases h.sep p.1 a va x (fun z=>e z) dU hx with h0|h0
      ·rw[h0] at hg;cases hg
      ·exact h0 (hg.trans uf.symm)
     ·omega
    ·rw[nf e'] at hy
     exact h.sep a a' x y Iq hx hy }
def Bd (W:World)(b:Nat)(t:aj):Prop:=Lib.IsBuilderF 88 5 b b (Lib.byteCells t) W
theorem Bd.kept(h:Bd W b t)(hb:aw W W'):Bd W' b t:=
 h.elim (fun x=> .inl (Lib.BuilderAtF.below x hb)) (fun x=> .inr (Lib.BuilderAtF.below x hb))
theorem Bd.lt(h:Bd W b t):b<W.heap.size:=h.elim (fun x=>x.lt) (fun x=>x.lt)
theorem Bd.new(W:World):Bd (W.alloc (.cells #[.pointer none,.slice none 0 0] 88)) W.heap.size []:=
 .inl ⟨cK _,.slice none 0 0,dV _ _,⟨rfl,.inl ⟨rfl,rfl⟩⟩,by simp[Value.ownBlock]⟩
structure IF (W W':World)(b:Nat)(t:aj):Prop where
 bd:Bd W' b t
 below:Below b W W'
 others:∀(k:Nat) (cs:Array Value) (T:TypeId) (fz:Nat×Nat),W.heap[k]? =some (.cells cs T fz)->k≠b->T≠5->W'.heap[k]? =some (.cells cs T fz)
theorem IF.of(h:Lib.BuilderAtF 88 5 b b (.pointer (some ⟨b,0,none⟩)) (Lib.byteCells t) W')(hb:Below b W W')(ho:Lib.OthersKept 5 (some b) W W'):IF W W' b t where
 bd:=.inr h
 below:=hb
 others:=fun k cs T fz hk xr hT=>ho k _ hk (fun e=>xr (dX e)) (fun c f e=>hT (by injection e))
theorem OM(W:World)(b:Nat)(t s:aj)(h:Bd W b t)(hl:t.length+s.length<=140737488355328):
  Calls Tryz.prog 28 #[.pointer (some ⟨b,0,none⟩),sv s] W fun e W'=>e=.returned (.tuple #[.int .i64 (s.length:Nat),.nilIface])/\IF W W' b (t++s):=by
 have hz:(⟨s.toArray⟩:ByteArray).size=s.length:=by simp[ByteArray.size]
 refine(awk b b (Lib.byteCells t) ⟨s.toArray⟩ W h (by rw[Lib.byteCells_length,hz];exact hl) (BL h.lt)).mono ?_;rintro e W' ⟨rfl,h1,h2,h3⟩;rw[show Lib.strCells ⟨s.toArray⟩=Lib.byteCells s from rfl,<-Lib.byteCells_append] at h1;exact⟨by rw[hz],IF.of h1 h2 h3⟩
theorem Tv(W:World)(b:Nat)(t:aj)(h:Bd W b t)(hl:t.length+1<=140737488355328):
  Calls Tryz.prog 33 #[.pointer (some ⟨b,0,none⟩),.int .u8 10] W fun e W'=>e=.returned .nilIface/\IF W W' b (t++[10]):=by
 refine(awj b b (Lib.byteCells t) 10 W h (by rw[Lib.byteCells_length];exact hl) (BL h.lt)).mono ?_;rintro e W' ⟨rfl,h1,h2,h3⟩;rw[show Lib.byteCells t++[.int .u8 10]=Lib.byteCells (t++[10]) by rw[Lib.byteCells_append];rfl] at h1;exact⟨rfl,IF.of h1 h2 h3⟩
theorem awl(W:World)(b:Nat)(t:aj)(h:Bd W b t):
  Calls Tryz.prog 34 #[.pointer (some ⟨b,0,none⟩)] W fun e W'=>e=.returned (sv t)/\Below b W W':=by
 refine(Tryz.Builder_String_any_k b b t W h (BL h.lt)).mono ?_;rintro e W' ⟨rfl,h1,h2,h3⟩;exact⟨rfl,h2⟩
structure PS (W5 X:World)(q:Nat)(cs:Array Value)(t:aj):Prop where
 row:X.heap[q]? =some (.cells cs 45 (0,0))
 below:aw W5 X
 bd:Bd X W5.heap.size t
 lt:W5.heap.size<q
theorem PS.qlt(h:PS W5 X q cs t):q<X.heap.size:=(ng.1 h.row).1
theorem PS.then(h:PS W5 X q cs t)(D:aw X Y):PS W5 Y q cs t where
 row:=(D.block q h.qlt).trans h.row
 below:=h.below.trans (D.mono h.below.size)
 bd:=h.bd.kept D
 lt:=h.lt
theorem PS.drew(h:PS W5 X q cs t):PS W5 X.drew q cs t:=h.then ((Below.refl _ X).drew)
theorem PS.alloc(h:PS W5 X q cs t)(o:Obj):PS W5 (X.alloc o) q cs t:=h.then ((Below.refl _ X).alloc ax o)
theorem PS.wrote{t':aj}(h:PS W5 X q cs t)(D:IF X Y W5.heap.size t'):PS W5 Y q cs t' where
 row:=D.others q cs _ _ h.row (by have:=h.lt;omega) au
 below:=h.below.trans D.below
 bd:=D.bd
 lt:=h.lt
theorem PS.cell(h:PS W5 X q cs t):∀j,X.cell? ⟨q,j,none⟩=cs[j]? :=fun j=>az.cell ⟨_,h.row⟩ j
end
end Go.Proofs.YtkanpepkdcmpmaaGreatDoor
