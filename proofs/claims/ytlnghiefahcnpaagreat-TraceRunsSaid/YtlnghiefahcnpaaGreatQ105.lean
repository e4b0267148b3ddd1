import Derived.Test.YtlnghiefahcnpaaGreatQ108
import Derived.Test.YtlnghiefahcnpaaGreatQ12
set_option maxHeartbeats 40000000
set_option maxRecDepth 100000
set_option linter.all false
namespace Go.Proofs.YtlnghiefahcnpaaGreat
namespace Ab
open Go Go.RowKit
def aer:aF:=⟨0,[],[(138,[401,402])],[(20,[400])],aR,[(31,[52,53,56])],[(2,[(17,52,400,100,7),(17,53,401,113,9),(17,56,402,3,1)])]⟩
def aes:aI:=[(1,10,(.take 0 (.take 1 (.take 2 (.take 3 (.take 4 (.take 5 (.take 6 (.take 7 (.take 8 (.move 9 .nil)))))))))),[]),(11,9,(.take 0 (.take 1 (.take 2 (.take 4 (.take 5 (.take 6 (.take 7 (.move 3 (.move 8 .nil))))))))),[]),(17,20,(.take 0 (.take 1 (.take 2 (.take 3 (.take 4 (.take 5 (.take 6 (.take 7 (.take 8 (.take 9 (.take 10 (.take 11 (.take 12 (.take 13 (.take 14 (.take 15 (.take 16 (.move 17 (.take 18 (.move 19 .nil)))))))))))))))))))),[]),(23,7,(.take 0 (.take 1 (.take 2 (.take 3 (.take 4 (.take 5 (.take 6 .nil))))))),[])]
noncomputable def aqI:aA:=aT Tryz.prog aer 158 aes (Tryz.f106.body.getD .skip)
theorem aet:aD Tryz.prog aer 158 aes (Tryz.f106.body.getD .skip)=some aqI:=aV rfl ah
end Ab
namespace Ab
open Go Go.RowKit
def aeu:aF:=⟨500,[],[],[],aR,[],[]⟩
def aev:aI:=[]
noncomputable def aqJ:aA:=aT Tryz.prog aeu 101 aev (Tryz.f138.body.getD .skip)
theorem aew:aD Tryz.prog aeu 101 aev (Tryz.f138.body.getD .skip)=some aqJ:=aV rfl ah
end Ab
namespace Ab
open Go Go.RowKit
attribute [local irreducible] aC bo aU
open aq (dF de Rr aL mn sr tN tP)
theorem Dd {D:List Nat}{st:St}:∀{a b x y:List AC},st.gY D a=some x->st.gY D b=some y->st.gY D (a++b)=some (x++y)
 |[],b,x,y,ha,hb=>by cases ha;exact hb
 |c::a,b,x,y,ha,hb=>by
  unfold St.gY at ha;split at ha
  ·rename_i u v h1 h2;cases ha;rw[List.cons_append];unfold St.gY;rw[h1,Dd h2 hb];rfl
  ·cases ha
theorem De {D:List Nat}{st:St}:∀{a:List AC},a.all inl=true->st.gY D a=some a
 |[],_=>rfl
 |c::a,h=>by
  simp only[vT,bN] at h;unfold St.gY;rw[De h.2]
  cases c with
  |own s g=>cases h.1
  |ct s g=>cases h.1
  |part s g i=>cases h.1
  |cls f bK=>cases h.1
  |dX f bK=>rfl
  |v x=>rfl
  |sl es=>rfl
section
variable {s:aq.Node} {ak:AC} {rep:Bool} {val:Int} {c:aL} {o:List AC} {au:AC}
theorem aqK {D:List Nat}{st:St}{s1 s2 g1 g2:Nat}(Av:inl ak=true)(ho:o.all inl=true)(qc:inl au=true)(h1:s1∈D)(h2:s2∈D):st.gY D (rC s ak (.own s1 g1) rep val (.own s2 g2) c o au)=some (rC s ak (.own s1 g1) rep val (.own s2 g2) c o au):=by
 rw[dt];refine Dd (De (JK s)) ?_;have e:([ak,AC.own s1 g1,bA rep,iA val,AC.own s2 g2,iA c.node,iA c.handler,iA c.count]++o++[au])=[ak]++([AC.own s1 g1]++([bA rep,iA val]++([AC.own s2 g2]++([iA c.node,iA c.handler,iA c.count]++(o++[au]))))):=ae;rw[e]
 have own:∀(s g:Nat),s∈D->st.gY D [AC.own s g]=some [AC.own s g]:=fun s g hs=>by simp[St.gY,St.lP,hs]
 refine Dd (De (by simp[Av])) (Dd (own _ _ h1) (Dd (De ae) (Dd (own _ _ h2) (De (by simp[ho,qc])))))
end
theorem aqL (r r':Rr)(a:dF)(ak au:AC)(o:List AC)(g1 g2:Nat)(h:mn r a=some r')(Av:inl ak=true)(hoi:o.all inl=true)(qc:inl au=true)(ho:o.length=6)(hc:r.s.aS.cells.length<=1000000)(hp:r.s.aS.pending.length<=1000000)(ht:r.s.timers.length<=1000000)(hs:r.sent.length<=1000000)(hf:r.br.length<=1000000):
  fQ Tryz.prog 138 [.w (.agg (rC r.s ak (.own 401 g1) r.nu r.value (.own 402 g2) r.dA o au)),.w (.agg (Ao a))] [(401,.row 113 9 g1 (r.sent.map rq)),(402,.row 3 1 g2 (bB r.br))]
  (fun x S'=>x=.w (.agg (rC r'.s ak (.own 401 (g1+(r'.sent.length-r.sent.length))) r'.nu r'.value (.own 402 (g2+(r'.br.length-r.br.length))) r.dA o au))/\∀p∈[(401,Slot.row 113 9 (g1+(r'.sent.length-r.sent.length)) (r'.sent.map rq)),(402,Slot.row 3 1 (g2+(r'.br.length-r.br.length)) (bB r'.br))],S' p.1=p.2):=by
 have fz:∀(st:St) (s:aq.Node) (rep:Bool) (val:Int) (g1 g2:Nat),st.gY [401,402] (rC s ak (.own 401 g1) rep val (.own 402 g2) r.dA o au)=some (rC s ak (.own 401 g1) rep val (.own 402 g2) r.dA o au):=fun st s rep val g1 g2=>aqK Av hoi qc ae ae
 have hw:∀(s:aq.Node) (rep:Bool) (val:Int) (g1 g2:Nat),(rC s ak (.own 401 g1) rep val (.own 402 g2) r.dA o au).take 67=rC s ak (.own 401 g1) rep val (.own 402 g2) r.dA o au:=fun s rep val g1 g2=>List.take_of_length_le (by rw[JO _ _ _ _ _ _ _ _ _ ho];exact di _)
 have hl:∀(s:aq.Node) (sn fl:AC) (rep:Bool) (val:Int),(rC s ak sn rep val fl r.dA o au).length=67:=fun s sn fl rep val=>JO _ _ _ _ _ _ _ _ _ ho
 unfold mn at h;refine lQ aG Tryz.func138 rfl aew [.cell 4 67] ah _ rfl _ [2,3,4,5,7] [502,503,504,505] ?_;refine bG aew ?_;dsimp only[VM,uV,S0,List.cons_append,List.nil_append,List.map];by_cases k1:a.kind=1
 ·rw[if_pos k1,bz] at h;obtain⟨d,hd,rfl⟩:=h;have FF:=eL @k1 @hl @hw @fz @acF @OA
  repeat first|refine aN (NT r.s.aS d a.a a.b hd hc hp) ?_|refine aO (NT r.s.aS d a.a a.b hd hc hp) ?_|refine aP (NT r.s.aS d a.a a.b hd hc hp) ?_|refine bb ?_|refine zrq ?_
  (try dsimp only[aM,aJ])
  refine gZ (by first|(simp;done)|(simp[hl,hw,fz];try rfl)|(simp;try rfl)) ae ?_;exact(by simp[cZ])
 rw[if_neg k1] at h;by_cases k2:a.kind=2
 ·rw[if_pos k2,bz] at h;obtain⟨d,hd,rfl⟩:=h;have FF:=eL @k2 @hl @hw @fz @acF @OA
  repeat first|refine aN (NS r.s.aS d hd hc hp) ?_|refine aO (NS r.s.aS d hd hc hp) ?_|refine aP (NS r.s.aS d hd hc hp) ?_|refine bb ?_|refine zrq ?_
  (try dsimp only[aM,aJ])
  refine gZ (by first|(simp;done)|(simp[hl,hw,fz];try rfl)|(simp;try rfl)) ae ?_;exact(by simp[cZ])
 rw[if_neg k2] at h;by_cases k4:a.kind=4
 ·rw[if_pos k4] at h;cases h;have FF:=eL @k4 @hl @hw @fz @acG @OB
  repeat first|refine aN (CD r.s.timers a.a true ht) ?_|refine aO (CD r.s.timers a.a true ht) ?_|refine aP (CD r.s.timers a.a true ht) ?_|refine bb ?_|refine zrq ?_
  (try dsimp only[aM,aJ])
  refine gZ (by first|(simp;done)|(simp[hl,hw,fz];try rfl)|(simp;try rfl)) ae ?_;exact(by simp[cZ])
 rw[if_neg k4] at h;by_cases k5:a.kind=5
 ·rw[if_pos k5] at h;cases h;have FF:=eL @k5 @hl @hw @fz @acG @OB
  repeat first|refine aN (CD r.s.timers a.a false ht) ?_|refine aO (CD r.s.timers a.a false ht) ?_|refine aP (CD r.s.timers a.a false ht) ?_|refine bb ?_|refine zrq ?_
  (try dsimp only[aM,aJ])
  refine gZ (by first|(simp;done)|(simp[hl,hw,fz];try rfl)|(simp;try rfl)) ae ?_;exact(by simp[cZ])
 rw[if_neg k5] at h;by_cases k3:a.kind=3
 ·rw[if_pos k3] at h;cases h;have yi:r.sent.length+1<=100000000:=aa;have FF:=td @k3 @hl @hw @fz @CQ @Au @aoY @yi
  repeat first|refine bb ?_|refine zrq ?_
  (try dsimp only[aM,aJ])
  refine gZ (by first|(simp;done)|(simp[hl,hw,fz];try rfl)|(simp;try rfl)) ae ?_;exact(by simp[cZ])
 rw[if_neg k3] at h;by_cases k6:a.kind=6
 ·rw[if_pos k6] at h;by_cases w1:0<=r.s.waiting
  ·by_cases w2:a.a=r.s.waiting
   ·rw[if_pos ⟨w1,w2⟩] at h;cases h;have FF:=zj @k6 @hl @hw @fz @w1 @w2 @Oz @acH @aoZ @apa
    repeat first|refine bb ?_|refine zrq ?_
    (try dsimp only[aM,aJ])
    refine gZ (by first|(simp;done)|(simp[hl,hw,fz];try rfl)|(simp;try rfl)) ae ?_;exact(by simp[cZ])
   ·rw[if_neg (fun hh=>w2 hh.2)] at h;cases h;have FF:=jl @k6 @hl @hw @fz @w1 @w2 @Oz
    repeat first|refine bb ?_|refine zrq ?_
    (try dsimp only[aM,aJ])
    refine gZ (by first|(simp;done)|(simp[hl,hw,fz];try rfl)|(simp;try rfl)) ae ?_;exact(by simp[cZ])
  ·rw[if_neg (fun hh=>w1 hh.1)] at h;cases h;have FF:=eL @k6 @hl @hw @fz @w1 @Oz
   repeat first|refine bb ?_|refine zrq ?_
   (try dsimp only[aM,aJ])
   refine gZ (by first|(simp;done)|(simp[hl,hw,fz];try rfl)|(simp;try rfl)) ae ?_;exact(by simp[cZ])
 rw[if_neg k6] at h;by_cases k7:a.kind=7
 ·rw[if_pos k7] at h;cases h;have hf8:r.br.length+1<=100000000:=aa;have FF:=jl @k7 @hl @hw @fz @JP @apb @hf8
  repeat first|refine bb ?_|refine zrq ?_
  (try dsimp only[aM,aJ])
  refine gZ (by first|(simp;done)|(simp[hl,hw,fz];try rfl)|(simp;try rfl)) ae ?_;exact(by simp[cZ])
 rw[if_neg k7] at h;cases h;have FF:=zj @k1 @k2 @k3 @k4 @k5 @k6 @k7 @hl @hw @fz
 repeat first|refine bb ?_|refine zrq ?_
 (try dsimp only[aM,aJ])
 refine gZ (by first|(simp;done)|(simp[hl,hw,fz];try rfl)|(simp;try rfl)) ae ?_;exact(by simp[cZ])
end Ab
end Go.Proofs.YtlnghiefahcnpaaGreat
