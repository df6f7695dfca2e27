import Derived.Test.YtnboooapeopjoaaGreatDoorJ11
open Go.Proofs.Tryz renaming prog→af
set_option linter.all false
section
namespace Go.Proofs.YtnboooapeopjoaaGreatDoor
open Go.Eng
variable [bg]
set_option maxHeartbeats 4000000
set_option maxRecDepth 100000
abbrev Az:V:=.slice [.agg [str ⟨#[97,47,118,49]⟩,str ⟨#[115]⟩]]
abbrev eH:V:=.agg [num 1,str ⟨#[118]⟩,bl false,bl false,str ⟨#[]⟩,.slice [],num 0,str ⟨#[]⟩,str ⟨#[]⟩,.slice [],.slice [],num 0,str ⟨#[]⟩,str ⟨#[]⟩,.slice [],.slice [],num 2,str ⟨#[]⟩,str ⟨#[]⟩,.slice [],.slice [],num 0,str ⟨#[]⟩,str ⟨#[]⟩,str ⟨#[]⟩,num 1,.slice [],.slice [],.slice [],str ⟨#[]⟩,str ⟨#[]⟩]
abbrev W3:V:=.agg [num 3,str ⟨#[]⟩,str ⟨#[118]⟩,str ⟨#[]⟩,num 0,.slice [],.slice [],.slice []]
abbrev W4:V:=.slice [.agg [num 0,str ⟨#[]⟩,str ⟨#[]⟩,str ⟨#[]⟩,num 2,.slice [],.slice [],.slice []],.agg [num 16,str ⟨#[]⟩,str ⟨#[43]⟩,str ⟨#[]⟩,num 0,.slice [],.slice [],.slice [W3,W3]]]
abbrev fe:V:=.agg [num 1,str ⟨#[119]⟩,bl false,bl false,str ⟨#[]⟩,.slice [],num 0,str ⟨#[]⟩,str ⟨#[]⟩,.slice [],.slice [],num 0,str ⟨#[]⟩,str ⟨#[]⟩,.slice [],.slice [],num 2,str ⟨#[]⟩,str ⟨#[]⟩,.slice [],.slice [],num 10,str ⟨#[]⟩,str ⟨#[118]⟩,str ⟨#[]⟩,num 0,.slice [],.slice [],W4,str ⟨#[]⟩,str ⟨#[]⟩]
abbrev o5:V:=.agg [num 1,str ⟨#[120]⟩,bl false,bl false,str ⟨#[]⟩,.slice [],num 0,str ⟨#[]⟩,str ⟨#[]⟩,.slice [],.slice [],num 0,str ⟨#[]⟩,str ⟨#[]⟩,.slice [],.slice [],num 2,str ⟨#[]⟩,str ⟨#[]⟩,.slice [],.slice [],num 4,str ⟨#[109,47,118,49]⟩,str ⟨#[118]⟩,str ⟨#[]⟩,num 0,.slice [],.slice [],.slice [],str ⟨#[]⟩,str ⟨#[]⟩]
abbrev Lg:V:=.slice [.agg [str ⟨#[65]⟩,num 0,num 0,str ⟨#[]⟩,str ⟨#[]⟩,.slice [],.slice []]]
abbrev CU:V:=.slice [.agg [num 9,str ⟨#[]⟩,str ⟨#[65]⟩,.slice [],.slice []]]
abbrev tI:V:=.agg [num 0,str ⟨#[80]⟩,bl false,bl false,str ⟨#[]⟩,Lg,num 5,str ⟨#[]⟩,str ⟨#[]⟩,CU,.slice [],num 5,str ⟨#[]⟩,str ⟨#[]⟩,CU,.slice [],num 5,str ⟨#[]⟩,str ⟨#[]⟩,CU,.slice [],num 0,str ⟨#[]⟩,str ⟨#[]⟩,str ⟨#[]⟩,num 0,.slice [],.slice [],.slice [],str ⟨#[]⟩,str ⟨#[]⟩]
abbrev Gv:V:=.agg [num 1,str ⟨#[121]⟩,bl false,bl false,str ⟨#[]⟩,.slice [],num 0,str ⟨#[]⟩,str ⟨#[]⟩,.slice [],.slice [],num 0,str ⟨#[]⟩,str ⟨#[]⟩,.slice [],.slice [],num 10,str ⟨#[97,47,118,49]⟩,str ⟨#[78]⟩,.slice [],.slice [],num 4,str ⟨#[97,47,118,49]⟩,str ⟨#[102]⟩,str ⟨#[]⟩,num 0,.slice [],.slice [],.slice [],str ⟨#[]⟩,str ⟨#[]⟩]
abbrev uq:V:=.slice [eH,fe,o5,tI,Gv]
abbrev dc:bm:=.box [str ⟨#[109,47,118,49]⟩,Az,uq]
abbrev Ek:bm:=.map [(.string ⟨#[97,47,118,49]⟩,0,bl true)] 1
abbrev ko:bm:=.box [str ⟨#[97,47,118,49]⟩,str ⟨#[115]⟩]
abbrev dq:bm:=.box [num 1,str ⟨#[118]⟩,bl false,bl false,str ⟨#[]⟩,.slice [],num 0,str ⟨#[]⟩,str ⟨#[]⟩,.slice [],.slice [],num 0,str ⟨#[]⟩,str ⟨#[]⟩,.slice [],.slice [],num 2,str ⟨#[]⟩,str ⟨#[]⟩,.slice [],.slice [],num 0,str ⟨#[]⟩,str ⟨#[]⟩,str ⟨#[]⟩,num 1,.slice [],.slice [],.slice [],str ⟨#[]⟩,str ⟨#[]⟩]
abbrev P3:List bm:=[dc,Ek,.box [.mp 1],ko,dq,dq,.box [.cX (.func 118) [] [.ptr 2 0]],.box [.cX (.func 119) [] [.ptr 2 0]],.box [bl true],.rows 0 31 [eH],.box [str ⟨#[]⟩,.sc (.slice none 0 0),.ms 9 0 0 1,num 0,.sc (.slice none 0 0),num 0,.cX (.func 140) [] [.ptr 8 0,.ptr 6 0],.cX (.func 141) [] [.ptr 8 0,.ptr 7 0],.sc (.func (.func 139) #[] #[])]]
abbrev P4:List bm:=[dc,Ek,.box [.mp 1],ko,dq]
abbrev dE:bm:=.box [num 1,str ⟨#[119]⟩,bl false,bl false,str ⟨#[]⟩,.slice [],num 0,str ⟨#[]⟩,str ⟨#[]⟩,.slice [],.slice [],num 0,str ⟨#[]⟩,str ⟨#[]⟩,.slice [],.slice [],num 2,str ⟨#[]⟩,str ⟨#[]⟩,.slice [],.slice [],num 10,str ⟨#[]⟩,str ⟨#[118]⟩,str ⟨#[]⟩,num 0,.slice [],.slice [],W4,str ⟨#[]⟩,str ⟨#[]⟩]
abbrev P5:bm:=.box [str ⟨#[]⟩,.sc (.slice none 0 0),.ms 10 0 0 1,num 0,.sc (.slice none 0 0),num 0,.cX (.func 140) [] [.ptr 9 0,.ptr 7 0],.cX (.func 141) [] [.ptr 9 0,.ptr 8 0],.sc (.func (.func 139) #[] #[])]
abbrev El:bm:=.map [(.string ⟨#[97,47,118,49]⟩,0,bl true),(.string ⟨#[]⟩,1,bl true)] 2
abbrev iq:bm:=.box [num 1,str ⟨#[120]⟩,bl false,bl false,str ⟨#[]⟩,.slice [],num 0,str ⟨#[]⟩,str ⟨#[]⟩,.slice [],.slice [],num 0,str ⟨#[]⟩,str ⟨#[]⟩,.slice [],.slice [],num 2,str ⟨#[]⟩,str ⟨#[]⟩,.slice [],.slice [],num 4,str ⟨#[109,47,118,49]⟩,str ⟨#[118]⟩,str ⟨#[]⟩,num 0,.slice [],.slice [],.slice [],str ⟨#[]⟩,str ⟨#[]⟩]
abbrev P6:bm:=.box [str ⟨#[]⟩,.sc (.slice none 0 0),.ms 11 0 0 1,num 0,.sc (.slice none 0 0),num 0,.cX (.func 140) [] [.ptr 10 0,.ptr 8 0],.cX (.func 141) [] [.ptr 10 0,.ptr 9 0],.sc (.func (.func 139) #[] #[])]
abbrev ur:bm:=.map [(.string ⟨#[97,47,118,49]⟩,0,bl true),(.string ⟨#[]⟩,1,bl true),(.string ⟨#[109,47,118,49]⟩,2,bl true)] 3
abbrev lx:bm:=.box [num 0,str ⟨#[80]⟩,bl false,bl false,str ⟨#[]⟩,Lg,num 5,str ⟨#[]⟩,str ⟨#[]⟩,CU,.slice [],num 5,str ⟨#[]⟩,str ⟨#[]⟩,CU,.slice [],num 5,str ⟨#[]⟩,str ⟨#[]⟩,CU,.slice [],num 0,str ⟨#[]⟩,str ⟨#[]⟩,str ⟨#[]⟩,num 0,.slice [],.slice [],.slice [],str ⟨#[]⟩,str ⟨#[]⟩]
abbrev P7:V:=.cX (.func 140) [] [.ptr 11 0,.ptr 9 0]
abbrev P8:V:=.cX (.func 141) [] [.ptr 11 0,.ptr 10 0]
abbrev P9:List bm:=[dc,ur,.box [.mp 1],ko,dq,dE,iq,lx]
abbrev uu:bm:=.box [num 1,str ⟨#[121]⟩,bl false,bl false,str ⟨#[]⟩,.slice [],num 0,str ⟨#[]⟩,str ⟨#[]⟩,.slice [],.slice [],num 0,str ⟨#[]⟩,str ⟨#[]⟩,.slice [],.slice [],num 10,str ⟨#[97,47,118,49]⟩,str ⟨#[78]⟩,.slice [],.slice [],num 4,str ⟨#[97,47,118,49]⟩,str ⟨#[102]⟩,str ⟨#[]⟩,num 0,.slice [],.slice [],.slice [],str ⟨#[]⟩,str ⟨#[]⟩]
abbrev Qa:List bm:=[dc,ur,.box [.mp 1],ko,dq,dE,iq,lx,uu,uu,.box [.cX (.func 118) [] [.ptr 2 0]],.box [.cX (.func 119) [] [.ptr 2 0]],.box [bl true],.rows 0 31 [Gv],.box [str ⟨#[]⟩,.sc (.slice none 0 0),.ms 13 0 0 1,num 0,.sc (.slice none 0 0),num 0,.cX (.func 140) [] [.ptr 12 0,.ptr 10 0],.cX (.func 141) [] [.ptr 12 0,.ptr 11 0],.sc (.func (.func 139) #[] #[])]]
abbrev Qb:List bm:=[dc,ur,.box [.mp 1],ko,dq,dE,iq,lx,uu]
abbrev Qc:bm:=.map [(.string ⟨#[97,47,118,49]⟩,0,bl true)] 3
abbrev Jl:V:=.agg [str ⟨#[109,47,118,49]⟩,Az,uq]
abbrev ly:V:=.slice [.agg [str ⟨#[97,47,118,49]⟩,str ⟨#[109,48]⟩]]
abbrev iS:bm:=.box [str ⟨#[]⟩,.sc (.slice none 0 0),.sc (.slice none 0 0)]
abbrev Qd:bm:=.box [str ⟨#[109,47,118,49]⟩,ly,.sc (.slice none 0 0)]
abbrev jn:bm:=.map [(.string ⟨#[109,47,118,49]⟩,0,str ⟨#[]⟩),(.string ⟨#[97,47,118,49]⟩,1,str ⟨#[109,48]⟩)] 2
abbrev fE:bm:=.box [str ⟨#[97,47,118,49]⟩,str ⟨#[109,48]⟩]
abbrev Qe:bm:=.box [str ⟨#[109,47,118,49]⟩,Az,uq,num 0,.sc (.slice none 0 0),num 0,.cX (.func 124) [] [.ptr 5 0],.cX (.func 126) [] [.ptr 5 0],.cX (.func 123) [] [.ptr 5 0]]
abbrev Jm:List bm:=[dc,iS,Qd,dc,jn,.box [.mp 4],fE,Qe]
abbrev Qf:bm:=.box [str ⟨#[109,47,118,49]⟩,ly,.ms 10 0 0 1]
abbrev Qg:bm:=.box [str ⟨#[109,47,118,49]⟩,Az,uq,num 1,.sc (.slice none 0 0),num 0,.cX (.func 124) [] [.ptr 5 0],.cX (.func 126) [] [.ptr 5 0],.cX (.func 123) [] [.ptr 5 0]]
abbrev Qh:bm:=.box [str ⟨#[109,47,118,49]⟩,ly,.ms 10 1 0 2]
abbrev iU:V:=.agg [num 1,str ⟨#[120]⟩,bl false,bl false,str ⟨#[]⟩,.slice [],num 0,str ⟨#[]⟩,str ⟨#[]⟩,.slice [],.slice [],num 0,str ⟨#[]⟩,str ⟨#[]⟩,.slice [],.slice [],num 2,str ⟨#[]⟩,str ⟨#[]⟩,.slice [],.slice [],num 3,str ⟨#[]⟩,str ⟨#[118]⟩,str ⟨#[]⟩,num 0,.slice [],.slice [],.slice [],str ⟨#[]⟩,str ⟨#[]⟩]
abbrev Qi:bm:=.box [str ⟨#[109,47,118,49]⟩,Az,uq,num 2,.sc (.slice none 0 0),num 0,.cX (.func 124) [] [.ptr 5 0],.cX (.func 126) [] [.ptr 5 0],.cX (.func 123) [] [.ptr 5 0]]
abbrev Qj:bm:=.box [str ⟨#[109,47,118,49]⟩,ly,.ms 10 2 0 3]
abbrev lz:bm:=.box [num 1,str ⟨#[120]⟩,bl false,bl false,str ⟨#[]⟩,.slice [],num 0,str ⟨#[]⟩,str ⟨#[]⟩,.slice [],.slice [],num 0,str ⟨#[]⟩,str ⟨#[]⟩,.slice [],.slice [],num 2,str ⟨#[]⟩,str ⟨#[]⟩,.slice [],.slice [],num 3,str ⟨#[]⟩,str ⟨#[118]⟩,str ⟨#[]⟩,num 0,.slice [],.slice [],.slice [],str ⟨#[]⟩,str ⟨#[]⟩]
abbrev xl:V:=.slice [.agg [num 10,str ⟨#[]⟩,str ⟨#[65]⟩,.slice [],.slice []]]
abbrev kp:V:=.agg [num 0,str ⟨#[80]⟩,bl false,bl false,str ⟨#[]⟩,Lg,num 5,str ⟨#[]⟩,str ⟨#[]⟩,xl,.slice [],num 5,str ⟨#[]⟩,str ⟨#[]⟩,xl,.slice [],num 5,str ⟨#[]⟩,str ⟨#[]⟩,xl,.slice [],num 0,str ⟨#[]⟩,str ⟨#[]⟩,str ⟨#[]⟩,num 0,.slice [],.slice [],.slice [],str ⟨#[]⟩,str ⟨#[]⟩]
abbrev Qk:bm:=.box [str ⟨#[109,47,118,49]⟩,Az,uq,num 3,.slice [str ⟨#[65]⟩],num 0,.cX (.func 124) [] [.ptr 5 0],.cX (.func 126) [] [.ptr 5 0],.cX (.func 123) [] [.ptr 5 0]]
abbrev Ql:bm:=.box [str ⟨#[109,47,118,49]⟩,ly,.ms 10 3 0 4]
abbrev Qm:bm:=.rows 3 31 [eH,fe,iU,kp]
abbrev mP:bm:=.box [num 0,str ⟨#[80]⟩,bl false,bl false,str ⟨#[]⟩,Lg,num 5,str ⟨#[]⟩,str ⟨#[]⟩,xl,.slice [],num 5,str ⟨#[]⟩,str ⟨#[]⟩,xl,.slice [],num 5,str ⟨#[]⟩,str ⟨#[]⟩,xl,.slice [],num 0,str ⟨#[]⟩,str ⟨#[]⟩,str ⟨#[]⟩,num 0,.slice [],.slice [],.slice [],str ⟨#[]⟩,str ⟨#[]⟩]
abbrev l6:V:=.agg [num 1,str ⟨#[121]⟩,bl false,bl false,str ⟨#[]⟩,.slice [],num 0,str ⟨#[]⟩,str ⟨#[]⟩,.slice [],.slice [],num 0,str ⟨#[]⟩,str ⟨#[]⟩,.slice [],.slice [],num 10,str ⟨#[109,48]⟩,str ⟨#[78]⟩,.slice [],.slice [],num 4,str ⟨#[109,48]⟩,str ⟨#[102]⟩,str ⟨#[]⟩,num 0,.slice [],.slice [],.slice [],str ⟨#[]⟩,str ⟨#[]⟩]
abbrev nH:bm:=.box [str ⟨#[109,47,118,49]⟩,Az,uq,num 4,.sc (.slice none 0 0),num 0,.cX (.func 124) [] [.ptr 5 0],.cX (.func 126) [] [.ptr 5 0],.cX (.func 123) [] [.ptr 5 0]]
abbrev iV:bm:=.box [str ⟨#[109,47,118,49]⟩,ly,.ms 10 4 0 5]
abbrev ot:bm:=.rows 4 31 [eH,fe,iU,kp,l6]
abbrev ou:bm:=.box [num 1,str ⟨#[121]⟩,bl false,bl false,str ⟨#[]⟩,.slice [],num 0,str ⟨#[]⟩,str ⟨#[]⟩,.slice [],.slice [],num 0,str ⟨#[]⟩,str ⟨#[]⟩,.slice [],.slice [],num 10,str ⟨#[109,48]⟩,str ⟨#[78]⟩,.slice [],.slice [],num 4,str ⟨#[109,48]⟩,str ⟨#[102]⟩,str ⟨#[]⟩,num 0,.slice [],.slice [],.slice [],str ⟨#[]⟩,str ⟨#[]⟩]
abbrev pj:bm:=.map [(.string ⟨#[109,48]⟩,0,str ⟨#[97,47,118,49]⟩)] 1
abbrev Jn:bm:=.box [str ⟨#[109,47,118,49]⟩,ly,.ms 10 4 0 5,num 0,.sc (.slice none 0 0),num 0,.sc (.func (.func 85) #[] #[]),.sc (.func (.func 86) #[] #[]),.cX (.func 83) [] [.ptr 21 0]]
abbrev Qn:List bm:=[dc,iS,iV,dc,jn,.box [.mp 4],fE,nH,dq,.rows 0 31 [eH],ot,dE,.rows 0 31 [fe],lz,.rows 0 31 [iU],mP,.rows 0 31 [kp],ou,.rows 0 31 [l6],iV,pj,.box [.mp 20],fE,Jn,dq]
abbrev Qo:bm:=.box [str ⟨#[109,47,118,49]⟩,ly,.ms 10 4 0 5,num 1,.sc (.slice none 0 0),num 0,.sc (.func (.func 85) #[] #[]),.sc (.func (.func 86) #[] #[]),.cX (.func 83) [] [.ptr 21 0]]
abbrev Qp:bm:=.box [str ⟨#[109,47,118,49]⟩,ly,.ms 10 4 0 5,num 2,.sc (.slice none 0 0),num 0,.sc (.func (.func 85) #[] #[]),.sc (.func (.func 86) #[] #[]),.cX (.func 83) [] [.ptr 21 0]]
abbrev Qq:bm:=.box [str ⟨#[109,47,118,49]⟩,ly,.ms 10 4 0 5,num 3,.slice [str ⟨#[65]⟩],num 0,.sc (.func (.func 85) #[] #[]),.sc (.func (.func 86) #[] #[]),.cX (.func 83) [] [.ptr 21 0]]
theorem ai4 (hG:bg.g=some 1):eB af 36 [.ptr 10 0,num 0] P3 (fun r m=>(r,m)∈([(.eV [eH,num 0],P3)]:List (V×List bm))):=fu bH dP (cw hG) 3000 (by kernel_rfl)
theorem adr (hG:bg.g=some 1):eB af 80 [eH,.cX (.func 118) [] [.ptr 2 0],.cX (.func 119) [] [.ptr 2 0]] P4 (fun r m=>(r,m)∈([(bl true,P4)]:List (V×List bm))):=fu bH (c7 (ai4 hG) dP) (cw hG) 3000 (by kernel_rfl)
theorem ai5 (hG:bg.g=some 1):eB af 36 [.ptr 11 0,num 0] [dc,Ek,.box [.mp 1],ko,dq,dE,dE,.box [.cX (.func 118) [] [.ptr 2 0]],.box [.cX (.func 119) [] [.ptr 2 0]],.box [bl true],.rows 0 31 [fe],P5] (fun r m=>(r,m)∈([(.eV [fe,num 0],[dc,El,.box [.mp 1],ko,dq,dE,dE,.box [.cX (.func 118) [] [.ptr 2 0]],.box [.cX (.func 119) [] [.ptr 2 0]],.box [bl true],.rows 0 31 [fe],P5])]:List (V×List bm))):=fu bH dP (cw hG) 3000 (by kernel_rfl)
theorem ads (hG:bg.g=some 1):eB af 80 [fe,.cX (.func 118) [] [.ptr 2 0],.cX (.func 119) [] [.ptr 2 0]] [dc,Ek,.box [.mp 1],ko,dq,dE] (fun r m=>(r,m)∈([(bl true,[dc,El,.box [.mp 1],ko,dq,dE])]:List (V×List bm))):=fu bH (c7 (ai5 hG) dP) (cw hG) 3000 (by kernel_rfl)
theorem ai6 (hG:bg.g=some 1):eB af 36 [.ptr 12 0,num 0] [dc,El,.box [.mp 1],ko,dq,dE,iq,iq,.box [.cX (.func 118) [] [.ptr 2 0]],.box [.cX (.func 119) [] [.ptr 2 0]],.box [bl true],.rows 0 31 [o5],P6] (fun r m=>(r,m)∈([(.eV [o5,num 0],[dc,ur,.box [.mp 1],ko,dq,dE,iq,iq,.box [.cX (.func 118) [] [.ptr 2 0]],.box [.cX (.func 119) [] [.ptr 2 0]],.box [bl true],.rows 0 31 [o5],P6])]:List (V×List bm))):=fu bH dP (cw hG) 3000 (by kernel_rfl)
theorem adt (hG:bg.g=some 1):eB af 80 [o5,.cX (.func 118) [] [.ptr 2 0],.cX (.func 119) [] [.ptr 2 0]] [dc,El,.box [.mp 1],ko,dq,dE,iq] (fun r m=>(r,m)∈([(bl true,[dc,ur,.box [.mp 1],ko,dq,dE,iq])]:List (V×List bm))):=fu bH (c7 (ai6 hG) dP) (cw hG) 3000 (by kernel_rfl)
theorem ai7 (hG:bg.g=some 1):eB af 36 [.ptr 13 0,num 0] [dc,ur,.box [.mp 1],ko,dq,dE,iq,lx,lx,.box [.cX (.func 118) [] [.ptr 2 0]],.box [.cX (.func 119) [] [.ptr 2 0]],.box [bl true],.rows 0 31 [tI],.box [str ⟨#[]⟩,.sc (.slice none 0 0),.ms 12 0 0 1,num 0,.sc (.slice none 0 0),num 0,P7,P8,.sc (.func (.func 139) #[] #[])]] (fun r m=>(r,m)∈([(.eV [tI,num 0],[dc,ur,.box [.mp 1],ko,dq,dE,iq,lx,lx,.box [.cX (.func 118) [] [.ptr 2 0]],.box [.cX (.func 119) [] [.ptr 2 0]],.box [bl true],.rows 0 31 [tI],.box [str ⟨#[]⟩,.sc (.slice none 0 0),.ms 12 0 0 1,num 0,.slice [str ⟨#[65]⟩],num 0,P7,P8,.sc (.func (.func 139) #[] #[])]])]:List (V×List bm))):=fu bH dP (cw hG) 3000 (by kernel_rfl)
theorem adu (hG:bg.g=some 1):eB af 80 [tI,.cX (.func 118) [] [.ptr 2 0],.cX (.func 119) [] [.ptr 2 0]] P9 (fun r m=>(r,m)∈([(bl true,P9)]:List (V×List bm))):=fu bH (c7 (ai7 hG) dP) (cw hG) 3000 (by kernel_rfl)
theorem ai8 (hG:bg.g=some 1):eB af 36 [.ptr 14 0,num 0] Qa (fun r m=>(r,m)∈([(.eV [Gv,num 0],Qa)]:List (V×List bm))):=fu bH dP (cw hG) 3000 (by kernel_rfl)
theorem adv (hG:bg.g=some 1):eB af 80 [Gv,.cX (.func 118) [] [.ptr 2 0],.cX (.func 119) [] [.ptr 2 0]] Qb (fun r m=>(r,m)∈([(bl true,Qb)]:List (V×List bm))):=fu bH (c7 (ai8 hG) dP) (cw hG) 3000 (by kernel_rfl)
theorem W5 (hG:bg.g=some 1):eB af 121 [.mp 1] [dc,Qc,.box [.mp 1],ko,dq,dE,iq,lx,uu] (fun r m=>(r,m)∈([(.cX (.func 166) [] [.ptr 9 0],[dc,Qc,.box [.mp 1],ko,dq,dE,iq,lx,uu,.box [.mp 1]])]:List (V×List bm))):=vj bH dP (cw hG) 3000 (by kernel_rfl)
theorem W6 (hG:bg.g=some 1):bR af 122 [num 0] (str ⟨#[48]⟩):=dg bH (cw hG) 3000 (by kernel_rfl)
theorem adw (hG:bg.g=some 1):bR af 72 [Jl] ly:=Gk (bM (W6 hG) bH) (c7 (adr hG) (c7 (ads hG) (c7 (adt hG) (c7 (adu hG) (c7 (adv hG) (c7 (W5 hG) dP)))))) (cw hG) 3000 (by kernel_rfl)
theorem adx (hG:bg.g=some 1):eB af 73 [Jl,ly] [dc,iS,Qd] (fun r m=>(r,m)∈([(.ptr 7 0,Jm)]:List (V×List bm))):=vj bH dP (cw hG) 3000 (by kernel_rfl)
theorem ady (hG:bg.g=some 1):eB af 36 [.ptr 7 0,num 0] Jm (fun r m=>(r,m)∈([(.eV [eH,num 0],Jm)]:List (V×List bm))):=fu bH dP (cw hG) 3000 (by kernel_rfl)
theorem adz (hG:bg.g=some 1):eB af 36 [.ptr 7 0,num 1] [dc,iS,Qf,dc,jn,.box [.mp 4],fE,Qe,dq,.rows 0 31 [eH],.rows 0 31 [eH]] (fun r m=>(r,m)∈([(.eV [fe,num 0],[dc,iS,Qf,dc,jn,.box [.mp 4],fE,Qg,dq,.rows 0 31 [eH],.rows 0 31 [eH]])]:List (V×List bm))):=fu bH dP (cw hG) 3000 (by kernel_rfl)
theorem adA (hG:bg.g=some 1):eB af 36 [.ptr 7 0,num 2] [dc,iS,Qh,dc,jn,.box [.mp 4],fE,Qg,dq,.rows 0 31 [eH],.rows 1 31 [eH,fe],dE,.rows 0 31 [fe]] (fun r m=>(r,m)∈([(.eV [iU,num 0],[dc,iS,Qh,dc,jn,.box [.mp 4],fE,Qi,dq,.rows 0 31 [eH],.rows 1 31 [eH,fe],dE,.rows 0 31 [fe]])]:List (V×List bm))):=fu bH dP (cw hG) 3000 (by kernel_rfl)
theorem adB (hG:bg.g=some 1):eB af 36 [.ptr 7 0,num 3] [dc,iS,Qj,dc,jn,.box [.mp 4],fE,Qi,dq,.rows 0 31 [eH],.rows 2 31 [eH,fe,iU],dE,.rows 0 31 [fe],lz,.rows 0 31 [iU]] (fun r m=>(r,m)∈([(.eV [kp,num 0],[dc,iS,Qj,dc,jn,.box [.mp 4],fE,Qk,dq,.rows 0 31 [eH],.rows 2 31 [eH,fe,iU],dE,.rows 0 31 [fe],lz,.rows 0 31 [iU]])]:List (V×List bm))):=fu bH dP (cw hG) 3000 (by kernel_rfl)
theorem adC (hG:bg.g=some 1):eB af 36 [.ptr 7 0,num 4] [dc,iS,Ql,dc,jn,.box [.mp 4],fE,Qk,dq,.rows 0 31 [eH],Qm,dE,.rows 0 31 [fe],lz,.rows 0 31 [iU],mP,.rows 0 31 [kp]] (fun r m=>(r,m)∈([(.eV [l6,num 0],[dc,iS,Ql,dc,jn,.box [.mp 4],fE,nH,dq,.rows 0 31 [eH],Qm,dE,.rows 0 31 [fe],lz,.rows 0 31 [iU],mP,.rows 0 31 [kp]])]:List (V×List bm))):=fu bH dP (cw hG) 3000 (by kernel_rfl)
theorem adD (hG:bg.g=some 1):eB af 35 [.agg [str ⟨#[109,47,118,49]⟩,ly,.ms 10 4 0 5]] [dc,iS,iV,dc,jn,.box [.mp 4],fE,nH,dq,.rows 0 31 [eH],ot,dE,.rows 0 31 [fe],lz,.rows 0 31 [iU],mP,.rows 0 31 [kp],ou,.rows 0 31 [l6]] (fun r m=>(r,m)∈([(.ptr 23 0,[dc,iS,iV,dc,jn,.box [.mp 4],fE,nH,dq,.rows 0 31 [eH],ot,dE,.rows 0 31 [fe],lz,.rows 0 31 [iU],mP,.rows 0 31 [kp],ou,.rows 0 31 [l6],iV,pj,.box [.mp 20],fE,Jn])]:List (V×List bm))):=vj bH dP (cw hG) 3000 (by kernel_rfl)
theorem adE (hG:bg.g=some 1):eB af 36 [.ptr 23 0,num 0] Qn (fun r m=>(r,m)∈([(.eV [eH,num 0],Qn)]:List (V×List bm))):=fu bH dP (cw hG) 3000 (by kernel_rfl)
theorem adF (hG:bg.g=some 1):eB af 36 [.ptr 23 0,num 1] [dc,iS,iV,dc,jn,.box [.mp 4],fE,nH,dq,.rows 0 31 [eH],ot,dE,.rows 0 31 [fe],lz,.rows 0 31 [iU],mP,.rows 0 31 [kp],ou,.rows 0 31 [l6],iV,pj,.box [.mp 20],fE,Jn,dq,dq,.rows 0 31 [eH],.rows 0 31 [eH],dE] (fun r m=>(r,m)∈([(.eV [fe,num 0],[dc,iS,iV,dc,jn,.box [.mp 4],fE,nH,dq,.rows 0 31 [eH],ot,dE,.rows 0 31 [fe],lz,.rows 0 31 [iU],mP,.rows 0 31 [kp],ou,.rows 0 31 [l6],iV,pj,.box [.mp 20],fE,Qo,dq,dq,.rows 0 31 [eH],.rows 0 31 [eH],dE])]:List (V×List bm))):=fu bH dP (cw hG) 3000 (by kernel_rfl)
theorem adG (hG:bg.g=some 1):eB af 36 [.ptr 23 0,num 2] [dc,iS,iV,dc,jn,.box [.mp 4],fE,nH,dq,.rows 0 31 [eH],ot,dE,.rows 0 31 [fe],lz,.rows 0 31 [iU],mP,.rows 0 31 [kp],ou,.rows 0 31 [l6],iV,pj,.box [.mp 20],fE,Qo,dq,dq,.rows 0 31 [eH],.rows 0 31 [eH],dE,dE,.rows 0 31 [fe],.rows 0 31 [fe],iq] (fun r m=>(r,m)∈([(.eV [o5,num 0],[dc,iS,iV,dc,jn,.box [.mp 4],fE,nH,dq,.rows 0 31 [eH],ot,dE,.rows 0 31 [fe],lz,.rows 0 31 [iU],mP,.rows 0 31 [kp],ou,.rows 0 31 [l6],iV,pj,.box [.mp 20],fE,Qp,dq,dq,.rows 0 31 [eH],.rows 0 31 [eH],dE,dE,.rows 0 31 [fe],.rows 0 31 [fe],iq])]:List (V×List bm))):=fu bH dP (cw hG) 3000 (by kernel_rfl)
theorem adH (hG:bg.g=some 1):eB af 36 [.ptr 23 0,num 3] [dc,iS,iV,dc,jn,.box [.mp 4],fE,nH,dq,.rows 0 31 [eH],ot,dE,.rows 0 31 [fe],lz,.rows 0 31 [iU],mP,.rows 0 31 [kp],ou,.rows 0 31 [l6],iV,pj,.box [.mp 20],fE,Qp,dq,dq,.rows 0 31 [eH],.rows 0 31 [eH],dE,dE,.rows 0 31 [fe],.rows 0 31 [fe],iq,iq,.rows 0 31 [o5],.rows 0 31 [o5],lx] (fun r m=>(r,m)∈([(.eV [tI,num 0],[dc,iS,iV,dc,jn,.box [.mp 4],fE,nH,dq,.rows 0 31 [eH],ot,dE,.rows 0 31 [fe],lz,.rows 0 31 [iU],mP,.rows 0 31 [kp],ou,.rows 0 31 [l6],iV,pj,.box [.mp 20],fE,Qq,dq,dq,.rows 0 31 [eH],.rows 0 31 [eH],dE,dE,.rows 0 31 [fe],.rows 0 31 [fe],iq,iq,.rows 0 31 [o5],.rows 0 31 [o5],lx])]:List (V×List bm))):=fu bH dP (cw hG) 3000 (by kernel_rfl)
theorem adI (hG:bg.g=some 1):eB af 36 [.ptr 23 0,num 4] [dc,iS,iV,dc,jn,.box [.mp 4],fE,nH,dq,.rows 0 31 [eH],ot,dE,.rows 0 31 [fe],lz,.rows 0 31 [iU],mP,.rows 0 31 [kp],ou,.rows 0 31 [l6],iV,pj,.box [.mp 20],fE,Qq,dq,dq,.rows 0 31 [eH],.rows 0 31 [eH],dE,dE,.rows 0 31 [fe],.rows 0 31 [fe],iq,iq,.rows 0 31 [o5],.rows 0 31 [o5],lx,lx,.rows 0 31 [tI],.rows 0 31 [tI],uu] (fun r m=>(r,m)∈([(.eV [Gv,num 0],[dc,iS,iV,dc,jn,.box [.mp 4],fE,nH,dq,.rows 0 31 [eH],ot,dE,.rows 0 31 [fe],lz,.rows 0 31 [iU],mP,.rows 0 31 [kp],ou,.rows 0 31 [l6],iV,pj,.box [.mp 20],fE,.box [str ⟨#[109,47,118,49]⟩,ly,.ms 10 4 0 5,num 4,.sc (.slice none 0 0),num 0,.sc (.func (.func 85) #[] #[]),.sc (.func (.func 86) #[] #[]),.cX (.func 83) [] [.ptr 21 0]],dq,dq,.rows 0 31 [eH],.rows 0 31 [eH],dE,dE,.rows 0 31 [fe],.rows 0 31 [fe],iq,iq,.rows 0 31 [o5],.rows 0 31 [o5],lx,lx,.rows 0 31 [tI],.rows 0 31 [tI],uu])]:List (V×List bm))):=fu bH dP (cw hG) 3000 (by kernel_rfl)
theorem adJ (hG:bg.g=some 1):bR af 27 [Jl] (.eV [.agg [str ⟨#[109,47,118,49]⟩,ly,.slice [eH,fe,iU,kp,l6]],num 0,num 0]):=Gk (bM (Y8 hG) (bM (aiV hG) (bM (aiW hG) (bM (aiX hG) (bM (aiY hG) (bM (aiZ hG) (bM (W6 hG) (bM (adw hG) (bM (ai0 hG) (bM (ai1 hG) (bM (ai2 hG) (bM (ai3 hG) (bM (adq hG) bH))))))))))))) (c7 (adr hG) (c7 (ads hG) (c7 (adt hG) (c7 (adu hG) (c7 (adv hG) (c7 (W5 hG) (c7 (adx hG) (c7 (ady hG) (c7 (adz hG) (c7 (adA hG) (c7 (adB hG) (c7 (adC hG) (c7 (adD hG) (c7 (adE hG) (c7 (adF hG) (c7 (adG hG) (c7 (adH hG) (c7 (adI hG) dP)))))))))))))))))) (cw hG) 3000 (by kernel_rfl)
end Go.Proofs.YtnboooapeopjoaaGreatDoor
end
